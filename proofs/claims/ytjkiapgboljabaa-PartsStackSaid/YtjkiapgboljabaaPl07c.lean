/- The program's walker (see), as a function on lists; it comes to canon. No program is in sight. -/
import Derived.Test.YtjkiapgboljabaaPl07b
namespace Go.Proofs.Ytjkiapgboljabaa
set_option linter.unusedVariables false
set_option linter.unusedSimpArgs false
set_option maxRecDepth 100000
def seePop (fs : List (Int × Int)) (a : Int) : Nat → List Prt → List Nat → List Prt × List Nat
  | 0, l, h => (l, h)
  | n + 1, l, h =>
    if n + 1 ≤ fs.length ∧ (fs.getD n (0, 0)).2 = (l.getD (h.getD n 0) dP).fr then (l, h)
    else seePop fs a n (l.set (h.getD n 0) { l.getD (h.getD n 0) dP with to := a + 1, op := false }) (h.take n)
def seePush : List (Int × Int) → Nat → List Prt → List Nat → List Prt × List Nat
  | [], _, l, h => (l, h)
  | f :: fs, i, l, h =>
    if i < h.length then seePush fs (i + 1) (l.set (h.getD i 0) { l.getD (h.getD i 0) dP with mode := cntM f.1 }) h
    else seePush fs (i + 1) (l ++ [⟨cntM f.1, f.2, 0, if 0 < i then ((h.getD (i - 1) 0 : Nat) : Int) else -1, true⟩]) (h ++ [l.length])
def seeP (fs : List (Int × Int)) (a : Int) (l : List Prt) (h : List Nat) : List Prt × List Nat :=
  let x := seePop fs a h.length l h
  seePush fs 0 x.1 x.2
/-- A part set by its number is one set by its place. -/
theorem idx_lt {l : List Prt} {p : Int} (h : p ∈ frs l) : idxP l p < l.length := by
  have := List.idxOf_lt_length_of_mem h
  simpa [idxP, frs] using this
theorem idx_fr {l : List Prt} {p : Int} (h : p ∈ frs l) : (l.getD (idxP l p) dP).fr = p := by
  have hl := idx_lt h
  have h1 : (frs l)[idxP l p]'(by simpa [frs] using hl) = p := List.getElem_idxOf (List.idxOf_lt_length_of_mem h)
  rw [List.getD_eq_getElem?_getD, List.getElem?_eq_getElem hl]
  simpa [frs] using h1
theorem rise_inj {l : List Prt} (hr : (frs l).Pairwise (· < ·)) {i j : Nat} (hi : i < l.length) (hj : j < l.length) (e : l[i].fr = l[j].fr) : i = j := by
  rcases Nat.lt_trichotomy i j with h | h | h
  · have := List.pairwise_iff_getElem.1 hr i j (by simpa [frs] using hi) (by simpa [frs] using hj) h
    simp [frs] at this
    omega
  · exact h
  · have := List.pairwise_iff_getElem.1 hr j i (by simpa [frs] using hj) (by simpa [frs] using hi) h
    simp [frs] at this
    omega
theorem set_map {l : List Prt} (hr : (frs l).Pairwise (· < ·)) {p : Int} (hp : p ∈ frs l) (f : Prt → Prt) : l.set (idxP l p) (f (l.getD (idxP l p) dP)) = l.map fun q => if q.fr = p then f q else q := by
  have hl := idx_lt hp
  have hf := idx_fr hp
  apply List.ext_getElem (by simp)
  intro i h1 h2
  have hi : i < l.length := by simpa using h1
  rw [List.getElem_map]
  by_cases e : i = idxP l p
  · subst e
    rw [List.getElem_set_self, List.getD_eq_getElem?_getD, List.getElem?_eq_getElem hl] at *
    simp only [Option.getD_some] at hf ⊢
    rw [if_pos hf]
  · rw [List.getElem_set_ne (Ne.symm e)]
    rw [if_neg]
    intro e2
    apply e
    apply rise_inj hr hi hl
    rw [e2]
    rw [List.getD_eq_getElem?_getD, List.getElem?_eq_getElem hl] at hf
    exact hf.symm
def clo1 (a : Int) (q : Prt) : Prt := { q with to := a + 1, op := false }
theorem frs_if (P : Prt → Prop) [DecidablePred P] (f : Prt → Prt) (hf : ∀ q, (f q).fr = q.fr) (l : List Prt) : frs (l.map fun q => if P q then f q else q) = frs l := by
  simp only [frs, List.map_map]
  refine List.map_congr_left fun q _ => ?_
  simp only [Function.comp]
  split
  · exact hf q
  · rfl
theorem idx_if (P : Prt → Prop) [DecidablePred P] (f : Prt → Prt) (hf : ∀ q, (f q).fr = q.fr) (l : List Prt) (p : Int) : idxP (l.map fun q => if P q then f q else q) p = idxP l p := by
  unfold idxP; rw [frs_if P f hf]
theorem seePop_eq (fs : List (Int × Int)) (a : Int) (P : List Int) (hP : P.Nodup) (j : Nat) (hj : j ≤ P.length) (hfs : fs.map (·.2) = P.take j ∨ ∃ k, k ∉ P ∧ fs.map (·.2) = P.take j ++ [k]) :
    ∀ (n : Nat) (l : List Prt), j ≤ n → n ≤ P.length → (frs l).Pairwise (· < ·) → (∀ p ∈ P, p ∈ frs l) →
      seePop fs a n l ((P.map (idxP l)).take n) = (l.map (fun q => if q.fr ∈ (P.take n).drop j then clo1 a q else q), (P.map (idxP l)).take j) := by
  have hfl : fs.length = j ∨ (fs.length = j + 1 ∧ ∃ k, k ∉ P ∧ fs.map (·.2) = P.take j ++ [k]) := by
    rcases hfs with h | ⟨k, hk, h⟩
    · left; have := congrArg List.length h; simp at this; omega
    · right; refine ⟨?_, k, hk, h⟩; have := congrArg List.length h; simp at this; omega
  have hat : ∀ i, i < j → (fs.getD i (0, 0)).2 = P.getD i 0 := by
    intro i hi
    have h1 : (fs.map (·.2))[i]? = P[i]? := by
      rcases hfs with h | ⟨k, hk, h⟩
      · rw [h, List.getElem?_take, if_pos hi]
      · rw [h, List.getElem?_append_left (by simp; omega), List.getElem?_take, if_pos hi]
    rw [List.getElem?_map] at h1
    rw [List.getD_eq_getElem?_getD, List.getD_eq_getElem?_getD, ← h1]
    cases h2 : fs[i]? with
    | none =>
      exfalso
      rw [List.getElem?_eq_none_iff] at h2
      omega
    | some x => rfl
  intro n
  induction n with
  | zero =>
    intro l h0 _ hr hs
    obtain rfl : j = 0 := by omega
    simp [seePop]
  | succ n ih =>
    intro l h0 h1 hr hs
    have hn : n < P.length := by omega
    have hPn : P[n] ∈ frs l := hs _ (List.getElem_mem hn)
    have hg : ((P.map (idxP l)).take (n + 1)).getD n 0 = idxP l P[n] := by
      rw [List.getD_eq_getElem?_getD, List.getElem?_take, if_pos (by omega), List.getElem?_map, List.getElem?_eq_getElem hn]; rfl
    unfold seePop
    rw [hg, idx_fr hPn]
    by_cases hjn : j = n + 1
    · have hc := hat n (by omega)
      rw [List.getD_eq_getElem?_getD (l := P), List.getElem?_eq_getElem hn] at hc
      rw [if_pos ⟨by rcases hfl with h | h <;> omega, hc⟩]
      rw [show (P.take (n + 1)).drop j = [] by rw [hjn]; simp]
      simp [hjn]
    · have hne : ¬ (n + 1 ≤ fs.length ∧ (fs.getD n (0, 0)).2 = P[n]) := by
        rintro ⟨h2, h3⟩
        rcases hfl with h | ⟨h, k, hk, hfk⟩
        · omega
        · obtain rfl : n = j := by omega
          have h4 : (fs.map (·.2))[n]? = some k := by
            rw [hfk, List.getElem?_append_right (by simp; omega)]
            simp [Nat.min_eq_left hj]
          rw [List.getElem?_map] at h4
          rw [List.getD_eq_getElem?_getD] at h3
          cases h5 : fs[n]? with
          | none => rw [h5] at h4; cases h4
          | some x =>
            rw [h5] at h3 h4
            simp at h3 h4
            exact hk (by rw [← h4, h3]; exact List.getElem_mem hn)
      rw [if_neg hne]
      have hset := set_map hr hPn (clo1 a)
      unfold clo1 at hset
      rw [hset]
      have hfr : frs (l.map fun q => if q.fr = P[n] then ({ q with to := a + 1, op := false } : Prt) else q) = frs l := frs_if (fun q => q.fr = P[n]) (clo1 a) (fun _ => rfl) l
      have hix : ∀ p, idxP (l.map fun q => if q.fr = P[n] then ({ q with to := a + 1, op := false } : Prt) else q) p = idxP l p := fun p => by unfold idxP; rw [hfr]
      have hih := ih (l.map fun q => if q.fr = P[n] then ({ q with to := a + 1, op := false } : Prt) else q) (by omega) (by omega) (by rw [hfr]; exact hr) (by rw [hfr]; exact hs)
      have hmap : P.map (idxP (l.map fun q => if q.fr = P[n] then ({ q with to := a + 1, op := false } : Prt) else q)) = P.map (idxP l) := List.map_congr_left fun p _ => hix p
      rw [hmap] at hih
      rw [List.take_take, Nat.min_eq_left (by omega), hih]
      congr 1
      rw [List.map_map]
      refine List.map_congr_left fun q _ => ?_
      have hsp : (P.take (n + 1)).drop j = (P.take n).drop j ++ [P[n]] := by
        rw [List.take_succ_eq_append_getElem hn, List.drop_append_of_le_length (by simp; omega)]
      have hnd : P[n] ∉ (P.take n).drop j := by
        intro hm
        have hm' := List.mem_of_mem_drop hm
        rw [List.nodup_iff_pairwise_ne] at hP
        obtain ⟨i, hi, e⟩ := List.mem_take_iff_getElem.1 hm'
        have := List.pairwise_iff_getElem.1 hP i n (by omega) hn (by omega)
        exact this e
      rw [hsp]
      simp only [Function.comp]
      by_cases e : q.fr = P[n]
      · rw [if_pos e, if_neg (show ¬ ({ q with to := a + 1, op := false } : Prt).fr ∈ (P.take n).drop j by show ¬ q.fr ∈ _; rw [e]; exact hnd), if_pos (show q.fr ∈ (P.take n).drop j ++ [P[n]] by simp [e])]
        rfl
      · rw [if_neg e]
        by_cases e2 : q.fr ∈ (P.take n).drop j
        · rw [if_pos e2, if_pos (by simp [e2])]
        · rw [if_neg e2, if_neg (by simp [e2, e])]
/-- The modes of the frames that stay. -/
def appA (A : List (Int × Int)) (q : Prt) : Prt := match A.find? (fun x => x.2 == q.fr) with
  | some x => { q with mode := cntM x.1 }
  | none => q
theorem appA_fr (A : List (Int × Int)) (q : Prt) : (appA A q).fr = q.fr := by unfold appA; split <;> rfl
theorem seePush_eq (B : List (Int × Int)) : ∀ (A : List (Int × Int)) (i : Nat) (l : List Prt) (h : List Nat), (frs l).Pairwise (· < ·) → (∀ x ∈ A, x.2 ∈ frs l) → (A.map (·.2)).Nodup →
    (∀ t x, A[t]? = some x → h[i + t]? = some (idxP l x.2)) → seePush (A ++ B) i l h = seePush B (i + A.length) (l.map (appA A)) h
  | [], i, l, h, _, _, _, _ => by
    have : l.map (appA []) = l := by
      rw [show (appA []) = id from funext fun q => rfl, List.map_id]
    rw [this]; rfl
  | f :: A, i, l, h, hr, hm, hn, hh => by
    have h0 := hh 0 f rfl
    rw [Nat.add_zero] at h0
    have hil : i < h.length := (List.getElem?_eq_some_iff.1 h0).1
    have hgi : h.getD i 0 = idxP l f.2 := by rw [List.getD_eq_getElem?_getD, h0]; rfl
    have hf := hm f (by simp)
    rw [List.cons_append]
    have hu : seePush (f :: (A ++ B)) i l h = seePush (A ++ B) (i + 1) (l.set (h.getD i 0) { l.getD (h.getD i 0) dP with mode := cntM f.1 }) h := by rw [seePush, if_pos hil]
    rw [hu, hgi]
    have hset := set_map hr hf (fun q => { q with mode := cntM f.1 })
    rw [hset]
    have hfr : frs (l.map fun q => if q.fr = f.2 then ({ q with mode := cntM f.1 } : Prt) else q) = frs l := frs_if (fun q => q.fr = f.2) (fun q => { q with mode := cntM f.1 }) (fun _ => rfl) l
    rw [List.map_cons, List.nodup_cons] at hn
    rw [seePush_eq B A (i + 1) _ h (by rw [hfr]; exact hr) (fun x hx => by rw [hfr]; exact hm x (by simp [hx])) hn.2 (fun t x hx => by
      unfold idxP
      rw [hfr]
      have := hh (t + 1) x (by simpa using hx)
      rw [show i + (t + 1) = i + 1 + t by omega] at this
      exact this)]
    rw [List.map_map, List.length_cons, show i + 1 + A.length = i + (A.length + 1) by omega]
    congr 1
    refine List.map_congr_left fun q _ => ?_
    simp only [Function.comp]
    by_cases e : q.fr = f.2
    · rw [if_pos e]
      have e1 : A.find? (fun x => x.2 == q.fr) = none := by
        rw [List.find?_eq_none]
        intro x hx
        simp only [beq_iff_eq]
        intro e2
        exact hn.1 (List.mem_map.2 ⟨x, hx, by rw [e2, e]⟩)
      unfold appA
      simp only [e1]
      rw [List.find?_cons_of_pos (by simp [e])]
    · rw [if_neg e]
      unfold appA
      rw [List.find?_cons_of_neg (by simp; exact fun h => e h.symm)]
/-- What the walker holds behind k bytes. -/
def hereP (l : List UInt8) (k : Nat) : List Nat := (pls (FT l k)).map (idxP (canon l k))
def fsP (F : Stk) : List (Int × Int) := F.map fun x => (modeOf x.1, x.2)
theorem fsP_snd (F : Stk) : (fsP F).map (·.2) = pls F := by simp [fsP, pls]
theorem find_fsP (F : Stk) (p : Int) : (fsP F).find? (fun x => x.2 == p) = (F.find? (fun x => x.2 == p)).map fun x => (modeOf x.1, x.2) := by
  unfold fsP; rw [List.find?_map]; rfl
theorem see_canon (l : List UInt8) (k : Nat) : seeP (fsP (FT l (k + 1))) k (canon l k) (hereP l k) = (canon l (k + 1), hereP l (k + 1)) := by
  have ci := canon_ci l k
  obtain ⟨j, A, B, hF, hj, hA, hB⟩ := FT_split l k
  have hr := FT_rise l k
  have hnd : (pls (FT l k)).Nodup := by rw [List.nodup_iff_pairwise_ne]; exact hr.1.imp (fun h => by omega)
  have hkP : (k : Int) ∉ pls (FT l k) := fun h => by have := hr.2 _ h; omega
  have hkC : (k : Int) ∉ frs (canon l k) := fun h => by have := ci.bnd _ h; omega
  have hjl : j ≤ (pls (FT l k)).length := by simpa [pls] using hj
  have hlen : (hereP l k).length = (pls (FT l k)).length := by simp [hereP]
  have hpop := seePop_eq (fsP (FT l (k + 1))) k (pls (FT l k)) hnd j hjl (by
    rw [fsP_snd, hF, pls, List.map_append]
    rw [show A.map (·.2) = _ from hA]
    rcases hB with rfl | ⟨c, rfl⟩
    · left; simp
    · right; exact ⟨k, hkP, rfl⟩) (pls (FT l k)).length (canon l k) hjl (Nat.le_refl _) ci.rise ci.sub
  rw [List.take_of_length_le (Nat.le_refl _), List.take_of_length_le (by simp)] at hpop
  unfold seeP
  rw [hlen]
  show (let x := seePop _ _ _ _ ((pls (FT l k)).map (idxP (canon l k))); seePush _ 0 x.1 x.2) = _
  rw [hpop]
  simp only
  have hfsA : fsP (FT l (k + 1)) = fsP A ++ fsP B := by rw [hF]; simp [fsP]
  have hAmem : ∀ p ∈ pls A, p ∈ pls (FT l k) := fun p hp => by rw [hA] at hp; exact List.mem_of_mem_take hp
  have hfr1 : frs ((canon l k).map fun q => if q.fr ∈ (pls (FT l k)).drop j then clo1 k q else q) = frs (canon l k) := frs_if (fun q => q.fr ∈ (pls (FT l k)).drop j) (clo1 k) (fun _ => rfl) _
  have hAl : A.length = j := by have := congrArg List.length hA; simp [pls] at this; simp [pls] at hjl; omega
  rw [hfsA, seePush_eq (fsP B) (fsP A) 0 _ _ (by rw [hfr1]; exact ci.rise) (fun x hx => by
    rw [hfr1]
    have : x.2 ∈ pls A := by rw [← fsP_snd]; exact List.mem_map.2 ⟨x, hx, rfl⟩
    exact ci.sub _ (hAmem _ this)) (by rw [fsP_snd, hA]; exact hnd.sublist (List.take_sublist _ _)) (fun t x hx => by
    unfold idxP
    rw [hfr1, Nat.zero_add]
    have h1 : (pls A)[t]? = some x.2 := by rw [← fsP_snd, List.getElem?_map, hx]; rfl
    have ht : t < j := by have := (List.getElem?_eq_some_iff.1 h1).1; rw [← hAl]; simpa [pls] using this
    rw [hA, List.getElem?_take, if_pos ht] at h1
    rw [List.getElem?_take, if_pos ht, List.getElem?_map, h1]
    rfl)]
  have hlist : (((canon l k).map fun q => if q.fr ∈ (pls (FT l k)).drop j then clo1 k q else q).map (appA (fsP A))) = (canon l k).map (upd (FT l (k + 1)) ((k : Int) + 1)) := by
    rw [List.map_map]
    refine List.map_congr_left fun q hq => ?_
    have hqf : q.fr ∈ frs (canon l k) := List.mem_map.2 ⟨q, hq, rfl⟩
    have hqk : q.fr ≠ (k : Int) := fun e => hkC (e ▸ hqf)
    simp only [Function.comp]
    have htd : q.fr ∈ pls (FT l k) ↔ q.fr ∈ (pls (FT l k)).take j ∨ q.fr ∈ (pls (FT l k)).drop j := by
      rw [← List.mem_append, List.take_append_drop]
    have hFmem : q.fr ∈ pls (FT l (k + 1)) ↔ q.fr ∈ pls A := by
      rw [hF, pls, List.map_append, List.mem_append]
      constructor
      · rintro (h | h)
        · exact h
        · rcases hB with rfl | ⟨c, rfl⟩
          · cases h
          · simp at h; exact absurd h hqk
      · exact .inl
    have hopn := ci.opn q hq
    by_cases hd : q.fr ∈ (pls (FT l k)).drop j
    · have hnt : q.fr ∉ pls A := by
        rw [hA]
        intro ht
        rw [← List.take_append_drop j (pls (FT l k))] at hnd
        exact (List.nodup_append.1 hnd).2.2 _ ht _ hd rfl
      rw [if_pos hd]
      have ho : q.op = true := hopn.2 (htd.2 (.inr hd))
      have e1 : (fsP A).find? (fun x => x.2 == (clo1 (k : Int) q).fr) = none := by
        rw [find_fsP, Option.map_eq_none_iff, List.find?_eq_none]
        intro y hy
        simp only [beq_iff_eq]
        intro e
        exact hnt (List.mem_map.2 ⟨y, hy, e⟩)
      unfold appA upd
      rw [if_pos ho, findF_none (fun h => hnt (hFmem.1 h))]
      simp only [e1]
      rfl
    · rw [if_neg hd]
      by_cases ht : q.fr ∈ pls A
      · have ho : q.op = true := hopn.2 (hAmem _ ht)
        obtain ⟨y, hy, hye⟩ := List.mem_map.1 ht
        have hsome : (A.find? (fun x => x.2 == q.fr)).isSome = true := by
          rw [List.find?_isSome]
          exact ⟨y, hy, by simp [hye]⟩
        obtain ⟨z, hz⟩ := Option.isSome_iff_exists.1 hsome
        have e1 : (fsP A).find? (fun x => x.2 == q.fr) = some (modeOf z.1, z.2) := by rw [find_fsP, hz]; rfl
        have e2 : findF (FT l (k + 1)) q.fr = some z.1 := by unfold findF; rw [hF, List.find?_append, hz]; rfl
        unfold appA upd
        rw [if_pos ho]
        simp only [e1, e2]
        rfl
      · have hno : ¬ q.op = true := fun h => by
          rcases htd.1 (hopn.1 h) with h1 | h1
          · rw [← hA] at h1; exact ht h1
          · exact hd h1
        have e1 : (fsP A).find? (fun x => x.2 == q.fr) = none := by
          rw [find_fsP, Option.map_eq_none_iff, List.find?_eq_none]
          intro y hy
          simp only [beq_iff_eq]
          intro e
          exact ht (List.mem_map.2 ⟨y, hy, e⟩)
        unfold appA upd
        rw [if_neg hno]
        simp only [e1]
  rw [hlist]
  have hhA : ((pls (FT l k)).map (idxP (canon l k))).take j = (pls A).map (idxP (canon l k)) := by rw [hA, List.map_take]
  rw [hhA]
  have hixm : ∀ m : List Prt, frs m = frs (canon l k) → ∀ p, idxP m p = idxP (canon l k) p := fun m hm p => by unfold idxP; rw [hm]
  have hfu : frs ((canon l k).map (upd (FT l (k + 1)) ((k : Int) + 1))) = frs (canon l k) := frs_upd _ _ _
  have hfsl : (fsP A).length = j := by simp [fsP, hAl]
  rw [Nat.zero_add, hfsl]
  have hold : ∀ p ∈ pls A, idxP (canon l (k + 1)) p = idxP (canon l k) p := by
    intro p hp
    unfold idxP
    rw [frs_canon, List.idxOf_append, if_pos (ci.sub p (hAmem p hp))]
  rcases hB with rfl | ⟨c, rfl⟩
  · have hnew : newP (FT l (k + 1)) k (canon l k) = [] := newP_none (by
      intro p hp e
      subst e
      rw [hF, List.append_nil] at hp
      exact hkP (hAmem _ hp))
    show seePush [] _ _ _ = _
    rw [show canon l (k + 1) = (canon l k).map (upd (FT l (k + 1)) ((k : Int) + 1)) ++ newP (FT l (k + 1)) k (canon l k) from rfl, hnew, List.append_nil]
    unfold seePush hereP
    rw [Prod.mk.injEq]
    refine ⟨rfl, ?_⟩
    rw [hF, List.append_nil]
    exact (List.map_congr_left fun p hp => hold p hp).symm
  · have hnew := newP_of (k := (k : Int)) (l := canon l k) hF
    show seePush [(modeOf c, (k : Int))] _ _ _ = _
    unfold seePush
    have hnl : ¬ j < ((pls A).map (idxP (canon l k))).length := by simp [pls, hAl]
    rw [if_neg hnl]
    unfold seePush
    rw [show canon l (k + 1) = (canon l k).map (upd (FT l (k + 1)) ((k : Int) + 1)) ++ newP (FT l (k + 1)) k (canon l k) from rfl, hnew]
    rw [Prod.mk.injEq]
    constructor
    · congr 1
      simp only [List.cons.injEq, and_true]
      congr 1
      unfold upI
      rw [hF, List.dropLast_concat]
      rcases Nat.eq_zero_or_pos j with h0 | h0
      · have : A = [] := List.eq_nil_of_length_eq_zero (by omega)
        subst this
        simp [h0]
      · rw [if_pos h0]
        obtain ⟨G, y, rfl⟩ : ∃ G y, A = G ++ [y] := by
          rcases List.eq_nil_or_concat A with h | ⟨G, y, h⟩
          · subst h; simp at hAl; omega
          · exact ⟨G, y, by simpa using h⟩
        simp at hAl
        simp only [List.getLast?_append, List.getLast?_singleton, Option.some_or]
        rw [List.getD_eq_getElem?_getD, List.getElem?_map]
        have : (pls (G ++ [y]))[j - 1]? = some y.2 := by
          simp only [pls, List.map_append, List.map_cons, List.map_nil]
          rw [List.getElem?_append_right (by simp; omega)]
          simp [show j - 1 - G.length = 0 by omega]
        rw [this]
        rfl
    · have hP1 : pls (FT l (k + 1)) = pls A ++ [(k : Int)] := by rw [hF]; simp [pls]
      have hC : frs (canon l (k + 1)) = frs (canon l k) ++ [(k : Int)] := by rw [frs_canon, hnew]; rfl
      unfold hereP
      rw [hP1, List.map_append, List.map_cons, List.map_nil]
      congr 1
      · exact (List.map_congr_left fun p hp => (hold p hp).symm)
      · rw [List.length_map]
        unfold idxP
        rw [hC, List.idxOf_append, if_neg hkC]
        simp [frs]
end Go.Proofs.Ytjkiapgboljabaa
