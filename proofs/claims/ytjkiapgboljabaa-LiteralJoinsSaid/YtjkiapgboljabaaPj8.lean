/- LiteralJoins, the plain law: where nothing is open behind a text, its value goes ahead of the other one's. No program is in sight. -/
import Derived.Test.YtjkiapgboljabaaPs8
namespace Go.Proofs.Ytjkiapgboljabaa
set_option linter.unusedVariables false
set_option linter.unusedSimpArgs false
set_option maxRecDepth 100000
/-! The machine does not look at the places of its frames. -/
def mp (g : Int → Int) (x : Stk) : Stk := x.map fun y => (y.1, g y.2)
theorem rProgram_mp (g : Int → Int) (st : Stk) (f : Bool) (c b : UInt8) (p : Int) : rProgram (mp g st) f c b (g p) = (mp g (rProgram st f c b p).1, (rProgram st f c b p).2) := by
  unfold rProgram
  repeat' split
  all_goals simp [mp, List.map_tail]
theorem rPlain_mp (g : Int → Int) (st : Stk) (f : Bool) (c b : UInt8) (p : Int) : rPlain (mp g st) f c b (g p) = (mp g (rPlain st f c b p).1, (rPlain st f c b p).2) := by
  unfold rPlain
  refine ite_rel (fun x y : Stk × Bool => x = (mp g y.1, y.2)) (fun _ => rProgram_mp _ _ _ _ _ _) (fun _ => ?_)
  repeat' (refine ite_rel (fun x y : Stk × Bool => x = (mp g y.1, y.2)) (fun _ => ?_) (fun _ => ?_))
  all_goals first
    | (simp [mp, List.map_tail]; done)
    | (cases st <;> simp [mp])
theorem rStep_mp (g : Int → Int) (st : Stk) (f : Bool) (b : UInt8) (p : Int) : rStep (mp g st) f b (g p) = (mp g (rStep st f b p).1, (rStep st f b p).2) := by
  match st with
  | [] => rfl
  | (c, x) :: r =>
    have h0 := rPlain_mp g ((c, x) :: r) f c b p
    have h1 := rPlain_mp g ((67, x) :: r) f 67 b p
    have h2 := rPlain_mp g ((65, x) :: r) f 65 b p
    simp only [mp, List.map_cons] at h0 h1 h2 ⊢
    unfold rStep
    refine ite_rel (fun x y : Stk × Bool => x = (mp g y.1, y.2)) (fun _ => ?_) (fun _ => ?_)
    · refine ite_rel (fun x y : Stk × Bool => x = (mp g y.1, y.2)) (fun _ => rfl) (fun _ => ?_)
      refine ite_rel (fun x y : Stk × Bool => x = (mp g y.1, y.2)) (fun _ => ?_) (fun _ => ?_)
      · cases r with
        | nil => rfl
        | cons y r => exact ite_rel (fun x y : Stk × Bool => x = (mp g y.1, y.2)) (fun _ => rfl) (fun _ => rfl)
      · refine ite_rel (fun x y : Stk × Bool => x = (mp g y.1, y.2)) (fun _ => rfl) (fun _ => ?_)
        cases r with
        | nil => rfl
        | cons y r => exact rPlain_mp g (y :: r) f y.1 b p
    · refine ite_rel (fun x y : Stk × Bool => x = (mp g y.1, y.2)) (fun _ => ?_) (fun _ => ?_)
      · exact ite_rel (fun x y : Stk × Bool => x = (mp g y.1, y.2)) (fun _ => rfl) (fun _ => h1)
      · exact ite_rel (fun x y : Stk × Bool => x = (mp g y.1, y.2)) (fun _ => ite_rel (fun x y : Stk × Bool => x = (mp g y.1, y.2)) (fun _ => rfl) (fun _ => h2)) (fun _ => h0)
/-! Whether a word is fresh means something to a comment's byte alone. -/
theorem rProgram_fr (st : Stk) (f f' : Bool) (c b : UInt8) (p : Int) (hb : b.toNat ≠ 35) : (rProgram st f c b p).1 = (rProgram st f' c b p).1 := by
  unfold rProgram
  simp only [hb, false_and, if_false]
  repeat' split
  all_goals rfl
theorem rPlain_fr (st : Stk) (f f' : Bool) (c b : UInt8) (p : Int) (hb : b.toNat ≠ 35) : (rPlain st f c b p).1 = (rPlain st f' c b p).1 := by
  unfold rPlain
  refine ite_rel (fun x y : Stk × Bool => x.1 = y.1) (fun _ => rProgram_fr _ _ _ _ _ _ hb) (fun _ => ?_)
  repeat' (refine ite_rel (fun x y : Stk × Bool => x.1 = y.1) (fun _ => ?_) (fun _ => ?_))
  all_goals rfl
theorem rStep_fr (st : Stk) (f f' : Bool) (b : UInt8) (p : Int) (hb : b.toNat ≠ 35) : (rStep st f b p).1 = (rStep st f' b p).1 := by
  match st with
  | [] => rfl
  | (c, x) :: r =>
    unfold rStep
    refine ite_rel (fun x y : Stk × Bool => x.1 = y.1) (fun _ => ?_) (fun _ => ?_)
    · refine ite_rel (fun x y : Stk × Bool => x.1 = y.1) (fun _ => rfl) (fun _ => ?_)
      refine ite_rel (fun x y : Stk × Bool => x.1 = y.1) (fun _ => ?_) (fun _ => ?_)
      · cases r with
        | nil => rfl
        | cons y r => exact ite_rel (fun x y : Stk × Bool => x.1 = y.1) (fun _ => rfl) (fun _ => rfl)
      · refine ite_rel (fun x y : Stk × Bool => x.1 = y.1) (fun _ => rfl) (fun _ => ?_)
        cases r with
        | nil => rfl
        | cons y r => exact rPlain_fr (y :: r) _ _ y.1 b p hb
    · refine ite_rel (fun x y : Stk × Bool => x.1 = y.1) (fun _ => ?_) (fun _ => ?_)
      · exact ite_rel (fun x y : Stk × Bool => x.1 = y.1) (fun _ => rfl) (fun _ => rPlain_fr _ _ _ _ _ _ hb)
      · exact ite_rel (fun x y : Stk × Bool => x.1 = y.1) (fun _ => ite_rel (fun x y : Stk × Bool => x.1 = y.1) (fun _ => rfl) (fun _ => rPlain_fr _ _ _ _ _ _ hb)) (fun _ => rPlain_fr _ _ _ _ _ _ hb)
/-- The machine with a place of its own for the bottom. -/
def mAt (l : List UInt8) : Nat → Stk × Bool
  | 0 => ([(84, -1)], true)
  | k + 1 => rStep (mAt l k).1 (mAt l k).2 (l.getD k 0) k
def gB (d : Int) (p : Int) : Int := if p = -1 then 0 else p + d
theorem gB_nat (d : Int) (k : Nat) : gB d (k : Int) = (k : Int) + d := by unfold gB; rw [if_neg (by omega)]
theorem mAt_r (l : List UInt8) : ∀ k, rAt l k = (mp (gB 0) (mAt l k).1, (mAt l k).2)
  | 0 => rfl
  | k + 1 => by
    show rStep (rAt l k).1 (rAt l k).2 _ _ = _
    rw [mAt_r l k]
    have := rStep_mp (gB 0) (mAt l k).1 (mAt l k).2 (l.getD k 0) k
    rw [gB_nat, Int.add_zero] at this
    exact this
theorem mAt_join (a b : List UInt8) (ha : (rAt a a.length).1 = [(84, 0)]) (hb : ∀ c ∈ b, c.toNat ≠ 35) : ∀ k, k ≤ b.length → (rAt (a ++ b) (a.length + k)).1 = mp (gB a.length) (mAt b k).1
  | 0, _ => by rw [Nat.add_zero, rAt_app a b a.length (Nat.le_refl _), ha]; rfl
  | k + 1, h => by
    have hc : (b.getD k 0).toNat ≠ 35 := by
      rw [List.getD_eq_getElem?_getD, List.getElem?_eq_getElem (by omega)]
      exact hb _ (List.getElem_mem _)
    show (rStep (rAt (a ++ b) (a.length + k)).1 (rAt (a ++ b) (a.length + k)).2 ((a ++ b).getD (a.length + k) 0) ((a.length + k : Nat) : Int)).1 = mp _ (rStep (mAt b k).1 (mAt b k).2 (b.getD k 0) k).1
    rw [mAt_join a b ha hb k (by omega), getD_app, rStep_fr _ _ (mAt b k).2 _ _ hc]
    have := rStep_mp (gB a.length) (mAt b k).1 (mAt b k).2 (b.getD k 0) k
    rw [gB_nat, show (k : Int) + (a.length : Int) = ((a.length + k : Nat) : Int) by omega] at this
    rw [this]
/-- The frames behind both are those of the second one, moved. -/
theorem join_FT (a b : List UInt8) (ha : (rAt a a.length).1 = [(84, 0)]) (hb : ∀ c ∈ b, c.toNat ≠ 35) (hne : 1 ≤ a.length) (k : Nat) (hk : k ≤ b.length) : FT (a ++ b) (a.length + k) = mp (· + (a.length : Int)) (FT b k) := by
  have h1 : XT (a ++ b) (a.length + k) = mp (gB a.length) (mAt b k).1.dropLast := by unfold XT; rw [mAt_join a b ha hb k hk]; simp [mp, List.map_dropLast]
  have h2 : XT b k = mp (gB 0) (mAt b k).1.dropLast := by unfold XT; rw [mAt_r]; simp [mp, List.map_dropLast]
  have h3 : ∀ y ∈ (mAt b k).1.dropLast, y.2 ≠ -1 := by
    intro y hy e
    have hm : (y.1, (0 : Int)) ∈ XT (a ++ b) (a.length + k) := by
      rw [h1]
      exact List.mem_map.2 ⟨y, hy, by rw [e]; rfl⟩
    have hal : Alive (a ++ b) 0 (a.length + k) := alive_x.2 (List.mem_map.2 ⟨_, hm, rfl⟩)
    have := alive_down hal a.length (by omega) (by omega)
    unfold Alive FT XT at this
    rw [rAt_app a b a.length (Nat.le_refl _), ha] at this
    simp [pls] at this
  unfold FT
  rw [h1, h2]
  simp only [mp, List.map_reverse, List.map_map]
  congr 1
  refine List.map_congr_left fun y hy => ?_
  have := h3 y hy
  simp [gB, this]
theorem join_pre (a b : List UInt8) (k : Nat) (hk : k ≤ a.length) : FT (a ++ b) k = FT a k := by unfold FT XT; rw [rAt_app a b k hk]
theorem join_alive (a b : List UInt8) (ha : (rAt a a.length).1 = [(84, 0)]) (hb : ∀ c ∈ b, c.toNat ≠ 35) (hne : 1 ≤ a.length) (x k : Nat) (hk : k ≤ b.length) : Alive (a ++ b) (a.length + x) (a.length + k) ↔ Alive b x k := by
  unfold Alive
  rw [join_FT a b ha hb hne k hk]
  simp only [pls, mp, List.map_map]
  constructor
  · intro h
    obtain ⟨y, hy, e⟩ := List.mem_map.1 h
    have : y.2 = (x : Int) := by simp at e; omega
    exact List.mem_map.2 ⟨y, hy, this⟩
  · intro h
    obtain ⟨y, hy, e⟩ := List.mem_map.1 h
    refine List.mem_map.2 ⟨y, hy, ?_⟩
    simp
    omega
theorem find_pi {l : List UInt8} {x : Nat} {q : Prt} (h : findP (partsL l) x = some q) : q ∈ partsL l ∧ PI l q x := by
  obtain ⟨h1, h2, _⟩ := findP_some (pl_parts l) h
  obtain ⟨f, hf⟩ := parts_pi h1
  obtain rfl : f = x := by have := hf.fr; omega
  exact ⟨h1, hf⟩
theorem find_none {l : List UInt8} {x : Nat} (hx : x < l.length) : findP (partsL l) x = none ↔ ¬ Alive l x (x + 1) := by
  refine ⟨fun h ha => ?_, find_dead⟩
  obtain ⟨q, hq, _⟩ := find_alive hx ha
  rw [h] at hq
  cases hq
/-- A place of the first text that has a letter. -/
theorem alive_letter {l : List UInt8} {x k : Nat} (h : Alive l x k) : ∃ c, (c, (x : Int)) ∈ FT l k := by
  obtain ⟨y, hy, e⟩ := List.mem_map.1 h
  exact ⟨y.1, by rw [← e]; exact hy⟩
/-- One part of two texts: where the frames and what is behind them agree. -/
theorem find_two {l l' : List UInt8} {x x' n n' : Nat} {q : Prt} (hx : x < n) (hn : n ≤ l.length) (hn' : n' ≤ l'.length) (hd : n' + x = n + x')
    (hF : ∀ j, x + j ≤ n → ∀ c, (c, (x : Int)) ∈ FT l (x + j) ↔ (c, (x' : Int)) ∈ FT l' (x' + j))
    (hend : (n = l.length ∧ n' = l'.length) ∨ ¬ Alive l x n)
    (hf : findP (partsL l) x = some q) : ∃ q', findP (partsL l') x' = some q' ∧ q'.mode = q.mode ∧ q'.op = q.op ∧ (q.mode ≠ 12 → toN q' + x = toN q + x') ∧ (q.mode = 12 → toN q' = x' + 1 + parL l' (x' + 1)) := by
  obtain ⟨hm, hp⟩ := find_pi hf
  have hA : ∀ j, x + j ≤ n → (Alive l x (x + j) ↔ Alive l' x' (x' + j)) := by
    intro j hj
    constructor
    · intro h; obtain ⟨c, hc⟩ := alive_letter h; exact alive_of ((hF j hj c).1 hc)
    · intro h; obtain ⟨c, hc⟩ := alive_letter h; exact alive_of ((hF j hj c).2 hc)
  obtain ⟨q', hf', hm', hp'⟩ := find_alive (l := l') (x := x') (by omega) ((hA 1 (by omega)).1 hp.al)
  refine ⟨q', hf', ?_⟩
  rcases hp.kind with ⟨h12, hk, _⟩ | ⟨h12, hop, hto, ⟨d, p, r, hst⟩, hgone⟩
  · rcases hk with ⟨hop, hto, hal⟩ | ⟨hop, e, he1, he2, hto, hdead, hal⟩
    · -- open at the end
      have hend : n = l.length ∧ n' = l'.length := by
        rcases hend with h | h
        · exact h
        · exact absurd (hal n hx hn) h
      have hl := hal l.length (by omega) (Nat.le_refl _)
      obtain ⟨c, hc⟩ := alive_letter hl
      have hmode := part_mode hm hp.fr (by omega) (Nat.le_refl _) hl (.inl rfl) hc
      have hj : x + (l.length - x) = l.length := by omega
      have hj' : x' + (l.length - x) = l'.length := by omega
      have hl' : Alive l' x' l'.length := by have := (hA (l.length - x) (by omega)).1 (by rw [hj]; exact hl); rwa [hj'] at this
      have hc' : (c, (x' : Int)) ∈ FT l' l'.length := by have := (hF (l.length - x) (by omega) c).1 (by rw [hj]; exact hc); rwa [hj'] at this
      have hmode' := part_mode hm' hp'.fr (by omega) (Nat.le_refl _) hl' (.inl rfl) hc'
      have h12' : q'.mode ≠ 12 := by omega
      refine ⟨by omega, ?_, ?_, fun h => absurd h h12⟩
      · rcases hp'.kind with ⟨_, ⟨h1, _⟩ | ⟨_, e, h2, h3, h4, h5, h6⟩, _⟩ | h
        · rw [h1, hop]
        · exact absurd (alive_down hl' e (by omega) h3) h5
        · exact absurd h.1 h12'
      · intro _
        rcases hp'.kind with ⟨_, ⟨h1, h2, _⟩ | ⟨_, e, h2, h3, h4, h5, h6⟩, _⟩ | h
        · unfold toN; omega
        · exact absurd (alive_down hl' e (by omega) h3) h5
        · exact absurd h.1 h12'
    · have hen : e ≤ n := by
        rcases hend with h | h
        · omega
        · refine Nat.le_of_not_lt fun hh => h (hal n hx hh)
      have hl := hal (e - 1) (by omega) (by omega)
      obtain ⟨c, hc⟩ := alive_letter hl
      have hmode := part_mode hm hp.fr (by omega) (by omega) hl (.inr (by rw [show e - 1 + 1 = e by omega]; exact hdead)) hc
      have h76 : c.toNat ≠ 76 := by intro h; exact h12 (by rw [hmode]; exact (cnt_76 c).2 h)
      have hj : x + (e - 1 - x) = e - 1 := by omega
      have hj2 : x + (e - x) = e := by omega
      have hl' : Alive l' x' (x' + (e - 1 - x)) := (hA (e - 1 - x) (by omega)).1 (by rw [hj]; exact hl)
      have hc' := (hF (e - 1 - x) (by omega) c).1 (by rw [hj]; exact hc)
      have hd' : ¬ Alive l' x' (x' + (e - x)) := fun h => hdead (by have := (hA (e - x) (by omega)).2 h; rwa [hj2] at this)
      have hee : x' + (e - 1 - x) = (x' + (e - x)) - 1 := by omega
      rw [hee] at hl' hc'
      obtain ⟨q2, hq2, _, _, a1, a2, a3⟩ := find_shut (l := l') (x := x') (e := x' + (e - x)) (by omega) (by omega) hl' hd' hc' h76
      rw [hf'] at hq2
      cases hq2
      have : toN q = e := by unfold toN; omega
      exact ⟨by omega, by rw [a3, hop], fun _ => by omega, fun h => absurd h h12⟩
  · -- a dollar
    have hc : ((76 : UInt8), (x : Int)) ∈ FT l (x + 1) := by
      unfold FT XT
      rw [hst]
      simp
    have hmode := part_mode (k := x + 1) hm hp.fr (by omega) (by omega) hp.al (by by_cases h : x + 2 ≤ l.length; exact .inr (hgone h); exact .inl (by omega)) hc
    have hc' := (hF 1 (by omega) 76).1 hc
    have hmode' : q'.mode = cnt 76 := by
      refine part_mode (k := x' + 1) hm' hp'.fr (by omega) (by omega) hp'.al ?_ hc'
      by_cases h : x' + 2 ≤ l'.length
      · refine .inr fun ha => ?_
        by_cases hn2 : x + 2 ≤ n
        · exact hgone (by omega) ((hA 2 hn2).2 ha)
        · rcases hend with h2 | h2
          · omega
          · exact h2 (by rw [show n = x + 1 by omega]; exact hp.al)
      · exact .inl (by omega)
    have h12' : q'.mode = 12 := by rw [hmode', ← hmode, h12]
    rcases hp'.kind with ⟨h, _⟩ | ⟨_, hop', hto', _⟩
    · exact absurd h12' h
    · exact ⟨by omega, by rw [hop', hop], fun h => absurd h12 h, fun _ => by unfold toN; omega⟩
theorem sub_app_l {a b : List UInt8} {x y : Nat} (h : y ≤ a.length) : sub (a ++ b) x y = sub a x y := by unfold sub; rw [List.take_append_of_le_length h]
theorem sub_app_r {a b : List UInt8} {x y : Nat} : sub (a ++ b) (a.length + x) (a.length + y) = sub b x y := by
  unfold sub
  rw [List.take_length_add_append, List.drop_length_add_append]
theorem getD_pre {a b : List UInt8} {x : Nat} (h : x < a.length) : (a ++ b).getD x 0 = a.getD x 0 := by rw [List.getD_eq_getElem?_getD, List.getD_eq_getElem?_getD, List.getElem?_append_left h]
theorem parL_zero {a b : List UInt8} {i : Nat} (hi : i < a.length) (h : parL a i = 0) : parL (a ++ b) i = 0 := by
  unfold parL at h ⊢
  rw [List.drop_append_of_le_length (by omega)]
  cases hd : a.drop i with
  | nil => have := congrArg List.length hd; simp at this; omega
  | cons c r =>
    rw [hd] at h
    unfold paramLen at h ⊢
    have hn : nameLen (c :: r) = 0 := by
      by_cases h0 : 0 < nameLen (c :: r)
      · rw [if_pos h0] at h; exact h
      · omega
    have hl : ¬ letB c = true := by
      intro hl
      unfold nameLen at hn
      simp only [hl, if_true] at hn
      have hb : nameB c = true := by unfold nameB; simp [hl]
      rw [List.takeWhile_cons, if_pos hb] at hn
      simp at hn
    have hn' : nameLen (c :: (r ++ b)) = 0 := by unfold nameLen; simp [hl]
    rw [hn] at h
    show (if 0 < nameLen (c :: (r ++ b)) then nameLen (c :: (r ++ b)) else _) = 0
    rw [hn']
    simp only [Nat.lt_irrefl, if_false] at h ⊢
    exact h
/-- The second text's pieces, moved. -/
theorem join_dr {a b : List UInt8} (ha : (rAt a a.length).1 = [(84, 0)]) (hb : ∀ c ∈ b, c.toNat ≠ 35) (hne : 1 ≤ a.length)
    (hR : ∀ x q, x < b.length → findP (partsL b) x = some q → ∃ q', findP (partsL (a ++ b)) (a.length + x) = some q' ∧ q'.mode = q.mode ∧ q'.op = q.op ∧ toN q' = a.length + toN q)
    (hN : ∀ x, x < b.length → findP (partsL b) x = none → findP (partsL (a ++ b)) (a.length + x) = none)
    {e x : Nat} {t : List UInt8} (he : e ≤ b.length) (h : DbT b (partsL b) e x t) : DbT (a ++ b) (partsL (a ++ b)) (a.length + e) (a.length + x) t := by
  induction h with
  | stop h1 => exact .stop (by omega)
  | @byte x t h1 h2 _ ih =>
    have := DbT.byte (l := a ++ b) (e := a.length + e) (x := a.length + x) (by omega) (hN x (by omega) h2) ih
    rwa [getD_app] at this
  | @lone x q t h1 h2 h3 _ ih =>
    obtain ⟨q', a1, a2, a3, a4⟩ := hR x q (by omega) h2
    have := DbT.lone (l := a ++ b) (e := a.length + e) (x := a.length + x) (by omega) a1 (by unfold loneB at h3 ⊢; simp at h3 ⊢; omega) ih
    rwa [getD_app] at this
  | @esc x q t h1 h2 h3 h4 _ ih =>
    obtain ⟨q', a1, a2, a3, a4⟩ := hR x q (by omega) h2
    have := DbT.esc (l := a ++ b) (e := a.length + e) (x := a.length + x) (by omega) a1 (by unfold loneB at h3 ⊢; simp at h3 ⊢; omega) (by omega) (by rw [a4]; exact ih)
    have e1 : escT (a ++ b) q' (a.length + x) = escT b q x := by
      unfold escT
      rw [a4, Nat.add_assoc a.length x 1, getD_app, sub_app_r]
      by_cases h : toN q < x + 2
      · rw [if_pos h, if_pos (by omega)]
      · rw [if_neg h, if_neg (by omega)]
    rwa [e1] at this
theorem join_right {a b : List UInt8} (ha : (rAt a a.length).1 = [(84, 0)]) (hb : ∀ c ∈ b, c.toNat ≠ 35) (hne : 1 ≤ a.length) {x : Nat} {t : List UInt8} (h : TxT b (partsL b) x t) : TxT (a ++ b) (partsL (a ++ b)) (a.length + x) t := by
  have hlen : (a ++ b).length = a.length + b.length := List.length_append
  have hR : ∀ x q, x < b.length → findP (partsL b) x = some q → ∃ q', findP (partsL (a ++ b)) (a.length + x) = some q' ∧ q'.mode = q.mode ∧ q'.op = q.op ∧ toN q' = a.length + toN q := by
    intro x q hx hf
    obtain ⟨q', a1, a2, a3, a4, a5⟩ := find_two (l := b) (l' := a ++ b) (x := x) (x' := a.length + x) (n := b.length) (n' := (a ++ b).length) hx (Nat.le_refl _) (Nat.le_refl _) (by omega) (fun j hj c => by
      rw [show a.length + x + j = a.length + (x + j) by omega, join_FT a b ha hb hne (x + j) hj]
      constructor
      · intro h
        exact List.mem_map.2 ⟨_, h, by simp; omega⟩
      · intro h
        obtain ⟨⟨c', p'⟩, hy, e⟩ := List.mem_map.1 h
        simp at e
        obtain ⟨e1, e2⟩ := e
        subst e1
        rw [show (x : Int) = p' by omega]
        exact hy) (.inl ⟨rfl, rfl⟩) hf
    refine ⟨q', a1, a2, a3, ?_⟩
    by_cases h12 : q.mode = 12
    · have h2 := a5 h12
      obtain ⟨hm, hp⟩ := find_pi hf
      have hpar : parL (a ++ b) (a.length + x + 1) = parL b (x + 1) := by
        unfold parL
        rw [Nat.add_assoc, List.drop_length_add_append]
      rw [hpar] at h2
      rcases hp.kind with ⟨h, _⟩ | ⟨_, _, hto, _⟩
      · exact absurd h12 h
      · rw [h2]; unfold toN; omega
    · have := a4 h12; omega
  have hN : ∀ x, x < b.length → findP (partsL b) x = none → findP (partsL (a ++ b)) (a.length + x) = none := by
    intro x hx h
    refine find_dead fun hal => (find_none hx).1 h ?_
    rw [Nat.add_assoc] at hal
    exact (join_alive a b ha hb hne x (x + 1) (by omega)).1 hal
  induction h with
  | stop h1 => exact .stop (by omega)
  | @byte x t h1 h2 _ ih =>
    have := TxT.byte (l := a ++ b) (x := a.length + x) (by omega) (hN x h1 h2) ih
    rwa [getD_app] at this
  | @plain x q t h1 h2 h3 _ ih =>
    obtain ⟨q', a1, a2, a3, a4⟩ := hR x q h1 h2
    have := TxT.plain (l := a ++ b) (x := a.length + x) (by omega) a1 (by unfold loneB at h3 ⊢; simp at h3 ⊢; omega) (by rw [a4]; exact ih)
    rwa [a4, sub_app_r] at this
  | @esc x q t h1 h2 h3 h4 _ ih =>
    obtain ⟨q', a1, a2, a3, a4⟩ := hR x q h1 h2
    have := TxT.esc (l := a ++ b) (x := a.length + x) (by omega) a1 (by unfold loneB at h3 ⊢; simp at h3 ⊢; omega) (by omega) (by rw [a4]; exact ih)
    rwa [a4, Nat.add_assoc, sub_app_r] at this
  | @single x q t h1 h2 h3 h4 _ ih =>
    obtain ⟨q', a1, a2, a3, a4⟩ := hR x q h1 h2
    have := TxT.single (l := a ++ b) (x := a.length + x) (by omega) a1 (by unfold loneB at h3 ⊢; simp at h3 ⊢; omega) (by omega) (by rw [a4]; exact ih)
    have ee : endQ q' = a.length + endQ q := by
      obtain ⟨_, _, _, hlt, _⟩ := findP_some (pl_parts b) h2
      unfold endQ
      rw [a3, a4]
      split <;> omega
    rwa [ee, Nat.add_assoc, sub_app_r] at this
  | @double x q d t h1 h2 h3 h4 h5 _ ih =>
    obtain ⟨q', a1, a2, a3, a4⟩ := hR x q h1 h2
    obtain ⟨_, _, _, hlt, hle, _⟩ := findP_some (pl_parts b) h2
    have ee : endQ q' = a.length + endQ q := by
      unfold endQ
      rw [a3, a4]
      split <;> omega
    have hd := join_dr ha hb hne hR hN (show endQ q ≤ b.length by unfold endQ; split <;> omega) h5
    exact TxT.double (l := a ++ b) (x := a.length + x) (by omega) a1 (by unfold loneB at h3 ⊢; simp at h3 ⊢; omega) (by omega) (by rw [ee, Nat.add_assoc]; exact hd) (by rw [a4]; exact ih)
/-- The first text's pieces, as they were. -/
theorem join_dl {a b : List UInt8}
    (hR : ∀ x q, x < a.length → findP (partsL a) x = some q → ∃ q', findP (partsL (a ++ b)) x = some q' ∧ q'.mode = q.mode ∧ q'.op = q.op ∧ (q.mode ≠ 12 → toN q' = toN q) ∧ (loneB q x = true → toN q' = x + 1))
    (hN : ∀ x, x < a.length → findP (partsL a) x = none → findP (partsL (a ++ b)) x = none)
    {e x : Nat} {t : List UInt8} (he : e ≤ a.length) (h : DbT a (partsL a) e x t) : DbT (a ++ b) (partsL (a ++ b)) e x t := by
  induction h with
  | stop h1 => exact .stop h1
  | @byte x t h1 h2 _ ih =>
    have := DbT.byte (l := a ++ b) (e := e) (x := x) h1 (hN x (by omega) h2) ih
    rwa [getD_pre (by omega)] at this
  | @lone x q t h1 h2 h3 _ ih =>
    obtain ⟨q', a1, a2, a3, a4, a5⟩ := hR x q (by omega) h2
    have h5 := a5 h3
    have := DbT.lone (l := a ++ b) (e := e) (x := x) h1 a1 (by unfold loneB at h3 ⊢; simp at h3 ⊢; omega) ih
    rwa [getD_pre (by omega)] at this
  | @esc x q t h1 h2 h3 h4 _ ih =>
    obtain ⟨q', a1, a2, a3, a4, a5⟩ := hR x q (by omega) h2
    have a4 := a4 (by omega)
    obtain ⟨_, _, _, hlt, hle, _⟩ := findP_some (pl_parts a) h2
    have := DbT.esc (l := a ++ b) (e := e) (x := x) h1 a1 (by unfold loneB; simp; omega) (by omega) (by rw [a4]; exact ih)
    have e1 : escT (a ++ b) q' x = escT a q x := by
      unfold escT
      rw [a4]
      by_cases h : toN q < x + 2
      · rw [if_pos h, if_pos h]
      · rw [if_neg h, if_neg h, getD_pre (by omega), sub_app_l hle]
    rwa [e1] at this
theorem join_left {a b u v : List UInt8} (ha : (rAt a a.length).1 = [(84, 0)]) (hv : TxT (a ++ b) (partsL (a ++ b)) a.length v) {x : Nat} (hx : x ≤ a.length) (h : TxT a (partsL a) x u) : TxT (a ++ b) (partsL (a ++ b)) x (u ++ v) := by
  have hlen : (a ++ b).length = a.length + b.length := List.length_append
  have hFn : FT a a.length = [] := FT_of (Y := []) (by rw [ha]; rfl)
  have hR : ∀ x q, x < a.length → findP (partsL a) x = some q → ∃ q', findP (partsL (a ++ b)) x = some q' ∧ q'.mode = q.mode ∧ q'.op = q.op ∧ (q.mode ≠ 12 → toN q' = toN q) ∧ (loneB q x = true → toN q' = x + 1) := by
    intro x q hx hf
    obtain ⟨q', a1, a2, a3, a4, a5⟩ := find_two (l := a) (l' := a ++ b) (x := x) (x' := x) (n := a.length) (n' := a.length) hx (Nat.le_refl _) (by omega) rfl (fun j hj c => by rw [join_pre a b (x + j) hj]) (.inr (by unfold Alive; rw [hFn]; simp [pls])) hf
    refine ⟨q', a1, a2, a3, fun h => by have := a4 h; omega, fun hl => ?_⟩
    unfold loneB at hl
    simp at hl
    obtain ⟨h12, hto⟩ := hl
    rw [a5 h12]
    obtain ⟨hm, hp⟩ := find_pi hf
    have hx1 : x + 1 < a.length := by
      rcases Nat.lt_or_ge (x + 1) a.length with h | h
      · exact h
      · exfalso
        have := hp.al
        rw [show x + 1 = a.length by omega] at this
        unfold Alive at this
        rw [hFn] at this
        simp [pls] at this
    have hz : parL a (x + 1) = 0 := by
      rcases hp.kind with ⟨h, _⟩ | ⟨_, _, h, _⟩
      · exact absurd h12 h
      · unfold toN at hto; omega
    rw [parL_zero hx1 hz]
  have hN : ∀ x, x < a.length → findP (partsL a) x = none → findP (partsL (a ++ b)) x = none := by
    intro x hx h
    refine find_dead fun hal => (find_none hx).1 h ?_
    unfold Alive at hal ⊢
    rwa [join_pre a b (x + 1) (by omega)] at hal
  induction h with
  | stop h1 =>
    obtain rfl := Nat.le_antisymm hx h1
    exact hv
  | @byte x t h1 h2 _ ih =>
    have := TxT.byte (l := a ++ b) (x := x) (by omega) (hN x h1 h2) (ih (by omega))
    rwa [getD_pre h1] at this
  | @plain x q t h1 h2 h3 _ ih =>
    obtain ⟨q', a1, a2, a3, a4, a5⟩ := hR x q h1 h2
    obtain ⟨_, _, _, hlt, hle, _⟩ := findP_some (pl_parts a) h2
    have hto : toN q' = toN q := by
      rcases h3 with h | h
      · rw [a5 h]; unfold loneB at h; simp at h; omega
      · exact a4 (by omega)
    have := TxT.plain (l := a ++ b) (x := x) (by omega) a1 (by unfold loneB at h3 ⊢; simp at h3 ⊢; omega) (by rw [hto]; exact ih hle)
    rwa [hto, sub_app_l hle, ← List.append_assoc] at this
  | @esc x q t h1 h2 h3 h4 _ ih =>
    obtain ⟨q', a1, a2, a3, a4, a5⟩ := hR x q h1 h2
    have a4 := a4 (by omega)
    obtain ⟨_, _, _, hlt, hle, _⟩ := findP_some (pl_parts a) h2
    have := TxT.esc (l := a ++ b) (x := x) (by omega) a1 (by unfold loneB at h3 ⊢; simp at h3 ⊢; omega) (by omega) (by rw [a4]; exact ih hle)
    rwa [a4, sub_app_l hle, ← List.append_assoc] at this
  | @single x q t h1 h2 h3 h4 _ ih =>
    obtain ⟨q', a1, a2, a3, a4, a5⟩ := hR x q h1 h2
    have a4 := a4 (by omega)
    obtain ⟨_, _, _, hlt, hle, _⟩ := findP_some (pl_parts a) h2
    have ee : endQ q' = endQ q := by unfold endQ; rw [a3, a4]
    have := TxT.single (l := a ++ b) (x := x) (by omega) a1 (by unfold loneB at h3 ⊢; simp at h3 ⊢; omega) (by omega) (by rw [a4]; exact ih hle)
    rwa [ee, sub_app_l (show endQ q ≤ a.length by unfold endQ; split <;> omega), ← List.append_assoc] at this
  | @double x q d t h1 h2 h3 h4 h5 _ ih =>
    obtain ⟨q', a1, a2, a3, a4, a5⟩ := hR x q h1 h2
    have a4 := a4 (by omega)
    obtain ⟨_, _, _, hlt, hle, _⟩ := findP_some (pl_parts a) h2
    have ee : endQ q' = endQ q := by unfold endQ; rw [a3, a4]
    have hd := join_dl hR hN (show endQ q ≤ a.length by unfold endQ; split <;> omega) h5
    have := TxT.double (l := a ++ b) (x := x) (by omega) a1 (by unfold loneB at h3 ⊢; simp at h3 ⊢; omega) (by omega) (by rw [ee]; exact hd) (by rw [a4]; exact ih hle)
    rwa [← List.append_assoc] at this
theorem joins_val {a b : List UInt8} (ha : (rAt a a.length).1.length = 1) (hb : ∀ c ∈ b, c.toNat ≠ 35) (va : valB a = true) (vb : valB b = true) : valB (a ++ b) = true ∧ valT (a ++ b) = valT a ++ valT b := by
  have ha : (rAt a a.length).1 = [(84, 0)] := by
    have h1 := XT_len a a.length
    have h2 : XT a a.length = [] := List.eq_nil_of_length_eq_zero (by omega)
    rw [rAt_split, h2]
    rfl
  have ta : TxT a (partsL a) 0 (valT a) := by
    unfold valT; rw [if_pos va]
    exact TxT.of_val (by unfold valB at va; simpa using va)
  have tb : TxT b (partsL b) 0 (valT b) := by
    unfold valT; rw [if_pos vb]
    exact TxT.of_val (by unfold valB at vb; simpa using vb)
  have h : TxT (a ++ b) (partsL (a ++ b)) 0 (valT a ++ valT b) := by
    by_cases hne : 1 ≤ a.length
    · exact join_left ha (by have := join_right ha hb hne tb; rwa [Nat.add_zero] at this) (by omega) ta
    · obtain rfl : a = [] := by cases a <;> simp_all
      have e : valT [] = [] := rfl
      rw [e]
      exact tb
  have h := h.whole
  have hbb : valB (a ++ b) = true := by unfold valB; rw [h.2]; rfl
  exact ⟨hbb, by unfold valT; rw [if_pos hbb]; exact h.1⟩
end Go.Proofs.Ytjkiapgboljabaa
