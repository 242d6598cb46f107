/- Plain functions of chapters 5 and 9: operators, lines, documents, blanks, tokens, as the program and as the reference have them. No program is in sight. -/
import Derived.Test.YtihmjejcikpibaaDoorPl8
import Derived.Test.YtihmjejcikpibaaDoorPl06h
namespace Go.Proofs.YtihmjejcikpibaaDoor
set_option linter.unusedVariables false
set_option linter.unusedSimpArgs false
set_option maxRecDepth 100000
/-! Operators. -/
def opTx : Nat → List UInt8
  | 1 => [38, 38] | 2 => [124, 124] | 3 => [59, 59] | 4 => [60, 60] | 5 => [60, 60, 45] | 6 => [62, 62] | 7 => [60, 38] | 8 => [62, 38] | 9 => [60, 62]
  | 10 => [62, 124] | 11 => [60] | 12 => [62] | 13 => [38] | 14 => [59] | 15 => [124] | 16 => [40] | 17 => [41] | _ => []
def opFrom (w : List UInt8) : Nat → Nat → Nat
  | 0, _ => 0
  | m + 1, k => if opTx k = w then k else opFrom w m (k + 1)
/-- The operator whose text it is. -/
def opOf (w : List UInt8) : Nat := if w = [] then 0 else opFrom w 17 1
/-- The longest operator of so many bytes at most, and its length. -/
def opN (d : List UInt8) : Nat → Nat × Nat
  | 0 => (0, 0)
  | n + 1 => if opOf (d.take (n + 1)) ≠ 0 then (opOf (d.take (n + 1)), n + 1) else opN d n
def opAt (l : List UInt8) (x : Nat) : Nat × Nat := if clsOf (l.getD x 0) ≠ 3 then (0, 0) else opN (l.drop x) (min 3 (l.length - x))
/-- The reference's. -/
def opBest (d : List UInt8) : Nat → Nat
  | 0 => 0
  | k + 1 => if (opTx (k + 1)).isPrefixOf d = true ∧ (opTx (opBest d k)).length < (opTx (k + 1)).length then k + 1 else opBest d k
/-- Other bytes than those of operators are all alike. -/
def alpha : List UInt8 := [38, 124, 59, 60, 62, 45, 40, 41]
def nrm (c : UInt8) : UInt8 := if alpha.contains c then c else 0
theorem opTx_alpha : ∀ k, ∀ c ∈ opTx k, c ∈ alpha := by
  intro k
  by_cases h : k < 18
  · have : ((List.range 18).all fun k => (opTx k).all fun c => alpha.contains c) = true := by decide +kernel
    have h2 := List.all_eq_true.1 this k (List.mem_range.2 h)
    intro c hc
    have := List.all_eq_true.1 h2 c hc
    simpa using this
  · intro c hc
    have : opTx k = [] := by unfold opTx; split <;> first | omega | rfl
    rw [this] at hc
    cases hc
theorem nrm_eq {c d : UInt8} (h : c ∈ alpha) : c = nrm d ↔ c = d := by
  unfold nrm
  constructor
  · intro e
    split at e
    · exact e
    · subst e; exact absurd h (by decide)
  · intro e
    subst e
    rw [if_pos (by simpa using h)]
theorem map_nrm : ∀ (t w : List UInt8), (∀ c ∈ t, c ∈ alpha) → (t = w.map nrm ↔ t = w)
  | [], [], _ => by simp
  | [], _ :: _, _ => by simp
  | _ :: _, [], _ => by simp
  | a :: t, b :: w, h => by
    have h1 := map_nrm t w (fun c hc => h c (List.mem_cons_of_mem _ hc))
    have h2 := nrm_eq (d := b) (h a List.mem_cons_self)
    simp only [List.map_cons, List.cons.injEq, h1, h2]
theorem pre_nrm : ∀ (t w : List UInt8), (∀ c ∈ t, c ∈ alpha) → t.isPrefixOf (w.map nrm) = t.isPrefixOf w
  | [], _, _ => by simp
  | _ :: _, [], _ => rfl
  | a :: t, b :: w, h => by
    have h1 := pre_nrm t w (fun c hc => h c (List.mem_cons_of_mem _ hc))
    have h2 := nrm_eq (d := b) (h a List.mem_cons_self)
    simp only [List.map_cons, List.isPrefixOf, h1]
    congr 1
    by_cases e : a = b
    · subst e; simp [h2]
    · have : ¬ a = nrm b := fun h => e (h2.1 h)
      rw [beq_eq_false_iff_ne.2 e, beq_eq_false_iff_ne.2 this]
theorem opFrom_nrm (w : List UInt8) : ∀ m k, opFrom (w.map nrm) m k = opFrom w m k
  | 0, _ => rfl
  | m + 1, k => by
    unfold opFrom
    rw [opFrom_nrm w m]
    by_cases e : opTx k = w
    · rw [if_pos e, if_pos ((map_nrm _ _ (opTx_alpha k)).2 e)]
    · rw [if_neg e, if_neg (fun h => e ((map_nrm _ _ (opTx_alpha k)).1 h))]
theorem opOf_nrm (w : List UInt8) : opOf (w.map nrm) = opOf w := by
  unfold opOf
  rw [opFrom_nrm]
  by_cases e : w = []
  · subst e; rfl
  · rw [if_neg e, if_neg (by simpa using e)]
theorem opN_nrm (d : List UInt8) : ∀ n, opN (d.map nrm) n = opN d n
  | 0 => rfl
  | n + 1 => by
    unfold opN
    rw [← List.map_take, opOf_nrm, opN_nrm d n]
theorem opBest_nrm (d : List UInt8) : ∀ k, opBest (d.map nrm) k = opBest d k
  | 0 => rfl
  | k + 1 => by
    unfold opBest
    rw [opBest_nrm d k, pre_nrm _ _ (opTx_alpha _)]
theorem opTx_len (k : Nat) : (opTx k).length ≤ 3 := by
  unfold opTx
  split <;> simp
theorem pre_take (t w : List UInt8) (n : Nat) (h : t.length ≤ n) : t.isPrefixOf (w.take n) = t.isPrefixOf w := by
  induction t generalizing w n with
  | nil => simp
  | cons a t ih =>
    cases w with
    | nil => simp
    | cons b w =>
      cases n with
      | zero => simp at h
      | succ n => simp only [List.take_succ_cons, List.isPrefixOf]; rw [ih w n (by simpa using h)]
theorem opBest_take (d : List UInt8) : ∀ k, opBest (d.take 3) k = opBest d k
  | 0 => rfl
  | k + 1 => by
    unfold opBest
    rw [opBest_take d k, pre_take _ _ _ (opTx_len _)]
theorem opN_take (d : List UInt8) (m : Nat) : ∀ n, n ≤ m → opN (d.take m) n = opN d n
  | 0, _ => rfl
  | n + 1, h => by
    unfold opN
    rw [opN_take d m n (by omega), List.take_take, Nat.min_eq_left h]
/-- Both ways of finding an operator come to the same. -/
def opGood (d : List UInt8) : Bool := (opBest d 17 == (opN d (min 3 d.length)).1) && ((opTx (opN d (min 3 d.length)).1).length == (opN d (min 3 d.length)).2) && (clsOf (d.getD 0 0) == 3 || opBest d 17 == 0) && (clsOf (d.getD 0 0) != 3 || (opN d (min 3 d.length)).2 != 0)
def alpha0 : List UInt8 := 0 :: alpha
theorem opGood_one : (alpha0.all fun a => opGood [a]) = true := by decide +kernel
theorem opGood_two : (alpha0.all fun a => alpha0.all fun b => opGood [a, b]) = true := by decide +kernel
theorem opGood_three : (alpha0.all fun a => alpha0.all fun b => alpha0.all fun c => opGood [a, b, c]) = true := by decide +kernel
theorem nrm_mem (c : UInt8) : nrm c ∈ alpha0 := by
  unfold nrm
  split
  · rename_i h; exact List.mem_cons_of_mem _ (by simpa using h)
  · exact List.mem_cons_self
theorem cls_nrm (c : UInt8) : (clsOf (nrm c) == 3) = (clsOf c == 3) := by
  have := byte_all (fun c => (clsOf (nrm c) == 3) == (clsOf c == 3)) (by decide +kernel) c
  simpa using this
theorem opGood_nrm (d : List UInt8) (hd : d ≠ []) (h : opGood (d.map nrm) = true) : opGood d = true := by
  unfold opGood at h ⊢
  have e : (d.map nrm).getD 0 0 = nrm (d.getD 0 0) := by
    cases d with
    | nil => exact absurd rfl hd
    | cons a r => rfl
  rw [opBest_nrm, List.length_map, opN_nrm, e, cls_nrm] at h
  have e2 : (clsOf (nrm (d.getD 0 0)) != 3) = (clsOf (d.getD 0 0) != 3) := by unfold bne; rw [cls_nrm]
  rw [e2] at h
  exact h
theorem opGood_all (d : List UInt8) (hd : d ≠ []) : opGood d = true := by
  have hs : opGood (d.take 3) = true := by
    refine opGood_nrm _ (by cases d <;> simp_all) ?_
    match d, hd with
    | [a], _ => exact List.all_eq_true.1 opGood_one _ (nrm_mem a)
    | [a, b], _ => exact List.all_eq_true.1 (List.all_eq_true.1 opGood_two _ (nrm_mem a)) _ (nrm_mem b)
    | a :: b :: c :: r, _ => exact List.all_eq_true.1 (List.all_eq_true.1 (List.all_eq_true.1 opGood_three _ (nrm_mem a)) _ (nrm_mem b)) _ (nrm_mem c)
  unfold opGood at hs ⊢
  have e : (d.take 3).getD 0 0 = d.getD 0 0 := by cases d <;> rfl
  have e2 : min 3 (d.take 3).length = min 3 d.length := by simp
  rw [opBest_take, e2, opN_take _ _ _ (by omega), e] at hs
  exact hs
theorem op_same (l : List UInt8) (x : Nat) (hx : x < l.length) : opBest (l.drop x) 17 = (opAt l x).1 ∧ (opTx (opAt l x).1).length = (opAt l x).2 ∧ (0 < (opAt l x).2 ↔ clsOf (l.getD x 0) = 3) := by
  have hd : l.drop x ≠ [] := by intro h; have := congrArg List.length h; simp at this; omega
  have h := opGood_all _ hd
  have e : (l.drop x).getD 0 0 = l.getD x 0 := by simp [List.getD_eq_getElem?_getD]
  unfold opGood at h
  rw [e, List.length_drop] at h
  simp only [Bool.and_eq_true, beq_iff_eq, Bool.or_eq_true, bne_iff_ne] at h
  obtain ⟨⟨⟨h1, h2⟩, h3⟩, h4⟩ := h
  unfold opAt
  by_cases hc : clsOf (l.getD x 0) = 3
  · rw [if_neg (fun h => h hc)]
    refine ⟨h1, h2, fun _ => hc, fun _ => ?_⟩
    rcases h4 with h4 | h4
    · exact absurd hc h4
    · omega
  · rw [if_pos hc]
    refine ⟨?_, rfl, fun h => by simp at h, fun h => absurd h hc⟩
    rcases h3 with h3 | h3
    · exact absurd h3 hc
    · exact h3
/-! Lines and documents. -/
def lineN (l : List UInt8) (x : Nat) : Nat := x + ((l.drop x).takeWhile fun c => c.toNat != 10).length
def tabT (t : Bool) (b : List UInt8) : List UInt8 := if t = true then b.dropWhile (fun c => c.toNat == 9) else b
def lineE (l : List UInt8) (x : Nat) : Nat := if lineN l x < l.length then lineN l x + 1 else lineN l x
def hereF (l w : List UInt8) (t : Bool) : Nat → Nat → Nat × Bool
  | 0, x => (x, false)
  | m + 1, x => if x < l.length then (if tabT t (sub l x (lineN l x)) = w then (lineE l x, true) else hereF l w t m (lineE l x)) else (x, false)
def hereL (l : List UInt8) (x : Nat) (w : List UInt8) (t : Bool) : Nat × Bool := hereF l w t (l.length - x) x
theorem lineN_le (l : List UInt8) (x : Nat) (h : x ≤ l.length) : x ≤ lineN l x ∧ lineN l x ≤ l.length := by
  unfold lineN
  have := (List.takeWhile_prefix (l := l.drop x) (fun c => c.toNat != 10)).length_le
  simp at this
  omega
theorem lineE_le (l : List UInt8) (x : Nat) (h : x < l.length) : x < lineE l x ∧ lineE l x ≤ l.length := by
  have h1 := lineN_le l x (by omega)
  unfold lineE
  split
  · omega
  · constructor
    · have : lineN l x = l.length := by omega
      omega
    · omega
theorem hereF_fuel (l w : List UInt8) (t : Bool) : ∀ (m m' x : Nat), l.length - x ≤ m → l.length - x ≤ m' → hereF l w t m x = hereF l w t m' x
  | 0, m', x, h, h' => by
    cases m' with
    | zero => rfl
    | succ m' => unfold hereF; rw [if_neg (by omega)]
  | m + 1, 0, x, h, h' => by unfold hereF; rw [if_neg (by omega)]
  | m + 1, m' + 1, x, h, h' => by
    unfold hereF
    by_cases hx : x < l.length
    · have := lineE_le l x hx
      rw [if_pos hx, if_pos hx, hereF_fuel l w t m m' (lineE l x) (by omega) (by omega)]
    · rw [if_neg hx, if_neg hx]
theorem hereL_eq (l : List UInt8) (x : Nat) (w : List UInt8) (t : Bool) : hereL l x w t = if x < l.length then (if tabT t (sub l x (lineN l x)) = w then (lineE l x, true) else hereL l (lineE l x) w t) else (x, false) := by
  unfold hereL
  by_cases hx : x < l.length
  · have := lineE_le l x hx
    obtain ⟨m, hm⟩ : ∃ m, l.length - x = m + 1 := ⟨l.length - x - 1, by omega⟩
    rw [hm]
    show (if x < l.length then _ else _) = _
    rw [if_pos hx, if_pos hx, hereF_fuel l w t m (l.length - lineE l x) (lineE l x) (by omega) (Nat.le_refl _)]
  · rw [if_neg hx, show l.length - x = 0 by omega]; rfl
theorem hereL_le (l w : List UInt8) (t : Bool) : ∀ (m x : Nat), l.length - x = m → x < l.length → x < (hereL l x w t).1 ∧ (hereL l x w t).1 ≤ l.length ∧ ((hereL l x w t).2 = false → (hereL l x w t).1 = l.length) := by
  intro m
  induction m using Nat.strongRecOn with
  | _ m ih =>
    intro x hm hx
    rw [hereL_eq, if_pos hx]
    have := lineE_le l x hx
    by_cases hw : tabT t (sub l x (lineN l x)) = w
    · rw [if_pos hw]; exact ⟨this.1, this.2, fun h => by cases h⟩
    · rw [if_neg hw]
      by_cases hy : lineE l x < l.length
      · have h2 := ih (l.length - lineE l x) (by omega) (lineE l x) rfl hy
        exact ⟨by omega, h2.2.1, h2.2.2⟩
      · rw [hereL_eq, if_neg hy]
        exact ⟨this.1, this.2, fun _ => by show lineE l x = _; omega⟩
/-! Blanks and digits. -/
def blankB (c : UInt8) : Bool := c.toNat == 32 || c.toNat == 9
def contB (l : List UInt8) (x : Nat) : Bool := x + 1 < l.length && (l.getD x 0).toNat == 92 && (l.getD (x + 1) 0).toNat == 10
def blankF (l : List UInt8) : Nat → Nat → Nat
  | 0, x => x
  | m + 1, x => if x < l.length then (if blankB (l.getD x 0) = true then blankF l m (x + 1) else if contB l x = true then blankF l m (x + 2) else x) else x
def blankL (l : List UInt8) (x : Nat) : Nat := blankF l (l.length - x) x
theorem blankF_fuel (l : List UInt8) : ∀ (m m' x : Nat), l.length - x ≤ m → l.length - x ≤ m' → blankF l m x = blankF l m' x
  | 0, m', x, h, h' => by
    cases m' with
    | zero => rfl
    | succ m' => unfold blankF; rw [if_neg (by omega)]
  | m + 1, 0, x, h, h' => by unfold blankF; rw [if_neg (by omega)]
  | m + 1, m' + 1, x, h, h' => by
    unfold blankF
    rw [blankF_fuel l m m' (x + 1) (by omega) (by omega), blankF_fuel l m m' (x + 2) (by omega) (by omega)]
theorem blankL_eq (l : List UInt8) (x : Nat) : blankL l x = if x < l.length then (if blankB (l.getD x 0) = true then blankL l (x + 1) else if contB l x = true then blankL l (x + 2) else x) else x := by
  unfold blankL
  by_cases hx : x < l.length
  · obtain ⟨m, hm⟩ : ∃ m, l.length - x = m + 1 := ⟨l.length - x - 1, by omega⟩
    rw [hm]
    show (if x < l.length then _ else _) = _
    rw [if_pos hx, if_pos hx, blankF_fuel l m (l.length - (x + 1)) (x + 1) (by omega) (Nat.le_refl _), blankF_fuel l m (l.length - (x + 2)) (x + 2) (by omega) (Nat.le_refl _)]
  · rw [if_neg hx, show l.length - x = 0 by omega]; rfl
theorem blankL_le (l : List UInt8) : ∀ (m x : Nat), l.length - x = m → x ≤ l.length → x ≤ blankL l x ∧ blankL l x ≤ l.length := by
  intro m
  induction m using Nat.strongRecOn with
  | _ m ih =>
    intro x hm hx
    rw [blankL_eq]
    by_cases hl : x < l.length
    · rw [if_pos hl]
      split
      · have := ih (l.length - (x + 1)) (by omega) (x + 1) rfl (by omega); omega
      · split
        · rename_i hc
          have hc2 : x + 1 < l.length := by unfold contB at hc; simp at hc; exact hc.1.1
          have := ih (l.length - (x + 2)) (by omega) (x + 2) rfl (by omega); omega
        · omega
    · rw [if_neg hl]; omega
theorem blankL_gt (l : List UInt8) (x : Nat) (hx : x < l.length) : x < blankL l x ↔ blankB (l.getD x 0) = true ∨ contB l x = true := by
  rw [blankL_eq, if_pos hx]
  split
  · rename_i h
    have := blankL_le l _ (x + 1) rfl (by omega)
    exact ⟨fun _ => .inl h, fun _ => by omega⟩
  · rename_i h
    split
    · rename_i hc
      have hc2 : x + 1 < l.length := by unfold contB at hc; simp at hc; exact hc.1.1
      have := blankL_le l _ (x + 2) rfl (by omega)
      exact ⟨fun _ => .inr hc, fun _ => by omega⟩
    · rename_i hc
      exact ⟨fun h2 => by omega, fun h2 => by rcases h2 with h2 | h2; exact absurd h2 h; exact absurd h2 hc⟩
abbrev digN (l : List UInt8) (x : Nat) : Nat := spanL digB l x
def numB (l : List UInt8) (x : Nat) : Bool := decide (0 < digN l x) && decide (x + digN l x < l.length) && ((l.getD (x + digN l x) 0).toNat == 60 || (l.getD (x + digN l x) 0).toNat == 62)
/-! Tokens. -/
structure Tk where
  kd : Nat
  fr : Nat
  to : Nat
  op : Bool
abbrev Dl := List UInt8 × Bool
structure Lx where
  aw : Int
  pd : List Dl
  bd : Bool
def shutB (w : List UInt8) : Bool := decide (clo (rAt w w.length).1 = [])
/-- The token at a place that is in no document. -/
def plainL (l : List UInt8) (x : Nat) : Tk :=
  if blankB (l.getD x 0) = true ∨ contB l x = true then ⟨1, x, blankL l x, false⟩
  else if (l.getD x 0).toNat = 10 then ⟨2, x, x + 1, false⟩
  else if (l.getD x 0).toNat = 35 then ⟨3, x, lineN l x, false⟩
  else if 0 < (opAt l x).2 then ⟨4, x, x + (opAt l x).2, false⟩
  else if numB l x = true then ⟨5, x, x + digN l x, false⟩
  else ⟨6, x, x + endL l x, !shutB (sub l x (x + endL l x))⟩
/-- The lexing behind a token that is in no document. -/
def behindL (t : List UInt8) (k : Nat) (X : Lx) : Lx :=
  if k = 1 then ⟨X.aw, X.pd, false⟩
  else if k = 2 then ⟨0, X.pd, !X.pd.isEmpty⟩
  else if k = 4 then ⟨if opOf t = 4 ∨ opOf t = 5 then (opOf t : Int) else 0, X.pd, false⟩
  else if k = 6 then ⟨0, if X.aw ≠ 0 then X.pd ++ [(txL (pcsL t), decide (X.aw = 5))] else X.pd, false⟩
  else ⟨0, X.pd, false⟩
def docL (l : List UInt8) (x : Nat) (X : Lx) (d : Dl) (r : List Dl) : Tk × Lx :=
  if (hereL l x d.1 d.2).2 = true then (⟨7, x, (hereL l x d.1 d.2).1, false⟩, ⟨X.aw, r, !r.isEmpty⟩) else (⟨7, x, (hereL l x d.1 d.2).1, true⟩, X)
def stepL (l : List UInt8) (x : Nat) (X : Lx) : Tk × Lx :=
  match X.bd, X.pd with
  | true, d :: r => docL l x X d r
  | _, _ => (plainL l x, behindL (sub l x (plainL l x).to) (plainL l x).kd X)
def lexF (l : List UInt8) : Nat → Nat → Lx → List Tk × Lx
  | 0, _, X => ([], X)
  | m + 1, x, X => if x < l.length then ((stepL l x X).1 :: (lexF l m (stepL l x X).1.to (stepL l x X).2).1, (lexF l m (stepL l x X).1.to (stepL l x X).2).2) else ([], X)
def lx0 : Lx := ⟨0, [], false⟩
def lexL (l : List UInt8) : List Tk × Lx := lexF l (l.length + 1) 0 lx0
end Go.Proofs.YtihmjejcikpibaaDoor
