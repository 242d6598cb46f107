/- Plain facts for chapter 8: where an Escape ends; what is shut has two bytes at least; the pieces of a text, as the program makes them and as the reference makes them. No program is in sight. -/
import Derived.Test.YtffngggdelmkpaaGreatDoorPl7
namespace Go.Proofs.YtffngggdelmkpaaGreatDoor
set_option linter.unusedVariables false
set_option linter.unusedSimpArgs false
set_option maxRecDepth 100000
theorem cnt_88 (c : UInt8) : cnt c = 13 ↔ c.toNat = 88 := by
  have := byte_all (fun c => decide (cnt c = 13) == decide (c.toNat = 88)) (by decide +kernel) c
  simpa using this
/-- A frame of an Escape was there ahead of the byte, or has that byte's place. -/
def PX (st : Stk) (a : Int) (x : Stk × Bool) : Prop := ∀ y ∈ x.1, y.1 = 88 → y ∈ st ∨ y.2 = a
theorem PX.same {st : Stk} {a : Int} {f : Bool} : PX st a (st, f) := fun y hy _ => .inl hy
theorem PX.tail {st : Stk} {a : Int} {f : Bool} : PX st a (st.tail, f) := fun y hy _ => .inl (List.mem_of_mem_tail hy)
theorem PX.push {st : Stk} {a : Int} {f : Bool} {c : UInt8} : PX st a ((c, a) :: st, f) := fun y hy _ => by
  rcases List.mem_cons.1 hy with rfl | hy
  · exact .inr rfl
  · exact .inl hy
theorem PX.turn {r : Stk} {a p : Int} {f : Bool} {c d : UInt8} (hc : c ≠ 88) : PX ((d, p) :: r) a ((c, p) :: r, f) := fun y hy h => by
  rcases List.mem_cons.1 hy with rfl | hy
  · exact absurd h hc
  · exact .inl (List.mem_cons_of_mem _ hy)
theorem PX.deep {r : Stk} {a : Int} {y : UInt8 × Int} {x : Stk × Bool} (h : PX r a x) : PX (y :: r) a x := fun z hz e => by
  rcases h z hz e with h1 | h1
  · exact .inl (List.mem_cons_of_mem _ h1)
  · exact .inr h1
theorem PX.other {r : Stk} {a p : Int} {c d : UInt8} {x : Stk × Bool} (hc : c ≠ 88) (h : PX ((c, p) :: r) a x) : PX ((d, p) :: r) a x := fun z hz e => by
  rcases h z hz e with h1 | h1
  · rcases List.mem_cons.1 h1 with rfl | h1
    · exact absurd e hc
    · exact .inl (List.mem_cons_of_mem _ h1)
  · exact .inr h1
theorem rProgram_px (st : Stk) (f : Bool) (c b : UInt8) (a : Int) : PX st a (rProgram st f c b a) := by
  unfold rProgram
  repeat' (refine ite_ok (PX st a) (fun _ => ?_) (fun _ => ?_))
  all_goals first
    | exact PX.push
    | exact PX.tail
    | exact PX.same
theorem rPlain_px (st : Stk) (f : Bool) (c b : UInt8) (a : Int) : PX st a (rPlain st f c b a) := by
  unfold rPlain
  repeat' (refine ite_ok (PX st a) (fun _ => ?_) (fun _ => ?_))
  all_goals first
    | exact rProgram_px _ _ _ _ _
    | exact PX.push
    | exact PX.tail
    | exact PX.same
    | (cases st with
       | nil => exact PX.same
       | cons y r => exact PX.turn (by decide))
theorem rStep_px (st : Stk) (f : Bool) (b : UInt8) (a : Int) : PX st a (rStep st f b a) := by
  match st with
  | [] => exact PX.same
  | (c, p) :: r =>
    unfold rStep
    refine ite_ok (PX ((c, p) :: r) a) (fun _ => ?_) (fun _ => ?_)
    · refine ite_ok (PX ((c, p) :: r) a) (fun _ => PX.turn (by decide)) (fun _ => ?_)
      refine ite_ok (PX ((c, p) :: r) a) (fun _ => ?_) (fun _ => ?_)
      · cases r with
        | nil => exact PX.turn (by decide)
        | cons y r => exact ite_ok (PX ((c, p) :: y :: r) a) (fun _ => PX.turn (by decide)) (fun _ => PX.turn (by decide))
      · refine ite_ok (PX ((c, p) :: r) a) (fun _ => PX.same.deep) (fun _ => ?_)
        cases r with
        | nil => exact PX.same.deep
        | cons y r => exact (rPlain_px _ _ _ _ _).deep
    · refine ite_ok (PX ((c, p) :: r) a) (fun _ => ?_) (fun _ => ?_)
      · exact ite_ok (PX ((c, p) :: r) a) (fun _ => PX.turn (by decide)) (fun _ => (rPlain_px _ _ _ _ _).other (by decide))
      · refine ite_ok (PX ((c, p) :: r) a) (fun _ => ?_) (fun _ => rPlain_px _ _ _ _ _)
        exact ite_ok (PX ((c, p) :: r) a) (fun _ => PX.same.deep) (fun _ => (rPlain_px _ _ _ _ _).other (by decide))
/-- An Escape's frame is one byte old at most. -/
theorem esc_young {l : List UInt8} {f k : Nat} {c : UInt8} (hk : f + 2 ≤ k) (h : (c, (f : Int)) ∈ FT l k) : c.toNat ≠ 88 := by
  intro hc
  obtain rfl : c = 88 := UInt8.toNat_inj.1 hc
  obtain ⟨k, rfl⟩ : ∃ k', k = k' + 1 := ⟨k - 1, by omega⟩
  have hm : ((88 : UInt8), (f : Int)) ∈ (rAt l (k + 1)).1 := by rw [rAt_split]; exact List.mem_append_left _ (by simpa [FT] using h)
  have hs : (rAt l (k + 1)).1 = (rStep (rAt l k).1 (rAt l k).2 (l.getD k 0) k).1 := rfl
  rcases rStep_px (rAt l k).1 (rAt l k).2 (l.getD k 0) k _ (by rw [← hs]; exact hm) rfl with h1 | h1
  · have hv := rAt_v l k
    have hx := rAt_split l k
    have hnd : (pls (XT l k)).Nodup := by rw [List.nodup_iff_pairwise_ne]; exact (XT_fall l k).1.imp (fun h => by omega)
    cases hst : (rAt l k).1 with
    | nil => rw [hst] at h1; cases h1
    | cons y r =>
      obtain ⟨d, p⟩ := y
      rw [hst] at h1 hv
      rcases List.mem_cons.1 h1 with h2 | h2
      · simp only [Prod.mk.injEq] at h2
        obtain ⟨rfl, rfl⟩ := h2
        have e : (rStep (rAt l k).1 (rAt l k).2 (l.getD k 0) k).1 = r := by rw [hst]; unfold rStep rPlain; simp
        rw [hs, e] at hm
        have hX : ((88 : UInt8), (f : Int)) ∈ XT l k := by
          have : ((88 : UInt8), (f : Int)) ∈ (rAt l k).1 := by rw [hst]; exact List.mem_cons_self
          rw [hx] at this
          rcases List.mem_append.1 this with h3 | h3
          · exact h3
          · simp at h3
        cases hXT : XT l k with
        | nil => rw [hXT] at hX; cases hX
        | cons z Z =>
          rw [hXT] at hx hnd
          rw [hst, List.cons_append] at hx
          injection hx with hz hr
          subst hz
          rw [hr] at hm
          simp only [pls, List.map_cons, List.nodup_cons] at hnd
          rcases List.mem_append.1 hm with h3 | h3
          · exact hnd.1 (List.mem_map.2 ⟨_, h3, rfl⟩)
          · simp at h3
      · have := hv.2 _ h2
        exact absurd (show Mid 88 = true from this) (by decide)
  · simp at h1
    omega
theorem part_two {l : List UInt8} {q : Prt} (h : q ∈ partsL l) : ∃ f t : Nat, q.fr = f ∧ q.to = t ∧ f < t ∧ t ≤ l.length ∧ (q.mode ≠ 12 → q.op = false → f + 2 ≤ t) ∧ (q.op = true → t = l.length) ∧ (q.mode = 13 → t ≤ f + 2) := by
  have h0 := h
  rw [parts_flat] at h
  obtain ⟨f, hf, hq⟩ := List.mem_flatMap.1 h
  have hf := List.mem_range.1 hf
  obtain ⟨q0, hq0, rfl⟩ := List.mem_map.1 hq
  have hp := pi_of hf hq0
  have hto := pi_to hp
  obtain ⟨t, ht⟩ : ∃ t : Nat, (finP l (evol l (l.length - (f + 1)) (f + 2) q0)).to = t := ⟨_, (Int.toNat_of_nonneg (by omega)).symm⟩
  refine ⟨f, t, hp.fr, ht, by omega, by omega, ?_, ?_, ?_⟩
  · intro h12 hop
    rcases hp.kind with ⟨_, h1 | ⟨_, e, h2, h3, h4, _⟩, _⟩ | h1
    · rw [h1.1] at hop; cases hop
    · omega
    · exact absurd h1.1 h12
  · intro hop
    rcases hp.kind with ⟨_, h1 | ⟨h2, _⟩, _⟩ | h1
    · have := h1.2.1; omega
    · rw [hop] at h2; cases h2
    · rw [h1.2.1] at hop; cases hop
  · intro h13
    -- the frame is gone behind the next byte
    have hgone : ¬ Alive l f (f + 2) ∨ l.length ≤ f + 1 := by
      have hal := hp.al
      obtain ⟨A, c, hF, hs⟩ := new_at hal
      rw [newP_of hF] at hq0
      simp only [List.mem_singleton] at hq0
      have i0 : (pls (FT l (f + 1)))[A.length]? = some (f : Int) := by rw [hF]; simp [pls]
      have hop : q0.op = true := by rw [hq0]
      have hfr : q0.fr = f := by rw [hq0]
      have hse := scan_evol l f (A.length + 1) (fun k hk hm => idx_const l f A.length i0 k hk hm) (l.length - (f + 1)) (f + 2) q0 hop hfr (by omega)
      obtain ⟨s1, s2, s3, s4⟩ := scan_spec (FT l) f (A.length + 1) (l.length - (f + 1)) (f + 2) { q0 with to := l.length } hop
      rw [show finP l (evol l (l.length - (f + 1)) (f + 2) q0) = fin1 l (fixTo l.length (evol l (l.length - (f + 1)) (f + 2) q0)) from rfl, ← hse] at h13
      generalize scanR (FT l) f (A.length + 1) (l.length - (f + 1)) (f + 2) { q0 with to := l.length } = r at *
      have hr : r.mode = 13 := by
        unfold fin1 at h13
        by_cases h12 : r.mode = 12
        · rw [if_pos h12] at h13
          have : r.mode = 13 := h13
          omega
        · rw [if_neg h12] at h13
          exact h13
      rcases s4 with ⟨_, h5 | h5⟩ | ⟨e, h1, h2, h3, h4⟩
      · exact .inl h5
      · exact .inr (by omega)
      · exfalso
        rw [hr] at h4
        have hc := (cnt_88 _).1 h4.symm
        have h5 := idx_const l f A.length i0 e (by omega) h3
        rw [Nat.add_sub_cancel] at hc
        rw [List.getElem?_map] at h5
        cases hy : (FT l e)[A.length]? with
        | none => rw [hy] at h5; cases h5
        | some y =>
          rw [hy] at h5
          simp at h5
          rw [List.getD_eq_getElem?_getD, hy] at hc
          exact esc_young (c := y.1) h1 (by rw [← h5]; exact List.mem_of_getElem? hy) hc
    rcases hp.kind with ⟨_, ⟨h1, h2, h3⟩ | ⟨_, e, h2, h3, h4, _, h6⟩, _⟩ | h1
    · rcases hgone with hg | hg
      · have : ¬ (f + 2 ≤ l.length) := fun hh => hg (h3 (f + 2) (by omega) hh)
        omega
      · omega
    · rcases hgone with hg | hg
      · have : ¬ (f + 2 < e) := fun hh => hg (h6 (f + 2) (by omega) hh)
        omega
      · omega
    · rw [h1.1] at h13; cases h13
/-! Pieces. -/
structure Pc where
  ex : Bool
  qu : Bool
  tx : List UInt8
def sub (l : List UInt8) (a b : Nat) : List UInt8 := (l.take b).drop a
def findP (L : List Prt) (x : Nat) : Option Prt := L.find? (fun q => q.fr == (x : Int))
def toN (q : Prt) : Nat := q.to.toNat
def loneB (q : Prt) (x : Nat) : Bool := decide (q.mode = 12 ∧ toN q = x + 1)
def endQ (q : Prt) : Nat := if q.op = true then toN q else toN q - 1
def escB (c : UInt8) : Bool := c.toNat == 36 || c.toNat == 96 || c.toNat == 34 || c.toNat == 92
/-- What an Escape within a Double stands for. -/
def escT (l : List UInt8) (q : Prt) (x : Nat) : List UInt8 :=
  if toN q < x + 2 then [] else if escB (l.getD (x + 1) 0) = true then [l.getD (x + 1) 0] else if (l.getD (x + 1) 0).toNat = 10 then [] else sub l x (toN q)
def flP (b : List UInt8) : List Pc := if b = [] then [] else [⟨false, false, b⟩]
def flQ (b : List UInt8) : List Pc := if b = [] then [] else [⟨false, true, b⟩]
/-- The pieces of a Double's inside, as the program tells them. -/
def dblF (l : List UInt8) (L : List Prt) (e : Nat) : Nat → Nat → List UInt8 → Bool → List Pc
  | 0, _, _, _ => []
  | m + 1, x, here, ex =>
    if x < e then
      match findP L x with
      | none => dblF l L e m (x + 1) (here ++ [l.getD x 0]) ex
      | some q =>
        if loneB q x = true then dblF l L e m (x + 1) (here ++ [l.getD x 0]) ex
        else if q.mode = 13 then dblF l L e m (toN q) (here ++ escT l q x) ex
        else flQ here ++ ⟨true, true, sub l x (toN q)⟩ :: dblF l L e m (toN q) [] true
    else if here = [] ∧ ex = true then [] else [⟨false, true, here⟩]
/-- The pieces from a place on, as the program tells them: what is plain is held back. -/
def pcsF (l : List UInt8) (L : List Prt) : Nat → Nat → List UInt8 → List Pc
  | 0, _, buf => flP buf
  | m + 1, x, buf =>
    if x < l.length then
      match findP L x with
      | none => pcsF l L m (x + 1) (buf ++ [l.getD x 0])
      | some q =>
        if loneB q x = true ∨ q.mode = 14 then pcsF l L m (toN q) (buf ++ sub l x (toN q))
        else if q.mode = 13 then
          (if sub l (x + 1) (toN q) = [] ∨ sub l (x + 1) (toN q) = [10] then pcsF l L m (toN q) buf
           else flP buf ++ ⟨false, true, sub l (x + 1) (toN q)⟩ :: pcsF l L m (toN q) [])
        else if q.mode = 4 then flP buf ++ ⟨false, true, sub l (x + 1) (endQ q)⟩ :: pcsF l L m (toN q) []
        else if q.mode = 5 then flP buf ++ (dblF l L (endQ q) (l.length + 1) (x + 1) [] false ++ pcsF l L m (toN q) [])
        else flP buf ++ ⟨true, false, sub l x (toN q)⟩ :: pcsF l L m (toN q) []
    else flP buf
def pcsL (l : List UInt8) : List Pc := pcsF l (partsL l) (l.length + 1) 0 []
/-- The reference's. -/
def plR (out : List Pc) (t : List UInt8) (fresh : Bool) : List Pc :=
  match out.getLast? with
  | some p => if fresh = false then out.dropLast ++ [⟨false, false, p.tx ++ t⟩] else out ++ [⟨false, false, t⟩]
  | none => out ++ [⟨false, false, t⟩]
def dblR (l : List UInt8) (L : List Prt) (e : Nat) : Nat → Nat → List UInt8 → List Pc → List Pc
  | 0, _, _, out => out
  | m + 1, x, here, out =>
    if x < e then
      match findP L x with
      | none => dblR l L e m (x + 1) (here ++ sub l x (x + 1)) out
      | some q =>
        if loneB q x = true then dblR l L e m (x + 1) (here ++ sub l x (x + 1)) out
        else if q.mode = 13 then
          dblR l L e m (toN q) (if toN q = x + 2 then (if escB (l.getD (x + 1) 0) = true then here ++ sub l (x + 1) (x + 2) else if (l.getD (x + 1) 0).toNat = 10 then here else here ++ sub l x (x + 2)) else here) out
        else dblR l L e m (toN q) [] ((if here = [] then out else out ++ [⟨false, true, here⟩]) ++ [⟨true, true, sub l x (toN q)⟩])
    else if here = [] ∧ out ≠ [] then out else out ++ [⟨false, true, here⟩]
def pcsR (l : List UInt8) (L : List Prt) : Nat → Nat → List Pc → Bool → List Pc
  | 0, _, out, _ => out
  | m + 1, x, out, fresh =>
    if x < l.length then
      match findP L x with
      | none => pcsR l L m (x + 1) (plR out (sub l x (x + 1)) fresh) false
      | some q =>
        if q.mode = 14 ∨ loneB q x = true then pcsR l L m (toN q) (plR out (sub l x (toN q)) fresh) false
        else if q.mode = 13 then
          (if toN q = x + 2 ∧ (l.getD (x + 1) 0).toNat ≠ 10 then pcsR l L m (toN q) (out ++ [⟨false, true, sub l (x + 1) (toN q)⟩]) true
           else pcsR l L m (toN q) out fresh)
        else if q.mode = 4 then pcsR l L m (toN q) (out ++ [⟨false, true, sub l (x + 1) (endQ q)⟩]) true
        else if q.mode = 5 then pcsR l L m (toN q) (out ++ dblR l L (endQ q) (l.length + 1) (x + 1) [] []) true
        else pcsR l L m (toN q) (out ++ [⟨true, false, sub l x (toN q)⟩]) true
    else out
theorem sub_one {l : List UInt8} {x : Nat} (h : x < l.length) : sub l x (x + 1) = [l.getD x 0] := by
  unfold sub
  rw [List.take_succ_eq_append_getElem h, List.drop_append_of_le_length (by simp; omega), List.drop_of_length_le (by simp; omega), List.getD_eq_getElem?_getD, List.getElem?_eq_getElem h]
  rfl
theorem sub_len {l : List UInt8} {a b : Nat} (h : b ≤ l.length) : (sub l a b).length = b - a := by unfold sub; simp; omega
/-- The parts of a text, as the pieces need them. -/
structure PL (l : List UInt8) (L : List Prt) : Prop where
  two : ∀ q ∈ L, ∃ f t : Nat, q.fr = f ∧ q.to = t ∧ f < t ∧ t ≤ l.length ∧ (q.mode ≠ 12 → q.op = false → f + 2 ≤ t) ∧ (q.op = true → t = l.length) ∧ (q.mode = 13 → t ≤ f + 2)
theorem pl_parts (l : List UInt8) : PL l (partsL l) := ⟨fun q h => part_two h⟩
theorem findP_some {l : List UInt8} {L : List Prt} (hL : PL l L) {x : Nat} {q : Prt} (h : findP L x = some q) : q ∈ L ∧ q.fr = x ∧ q.to = toN q ∧ x < toN q ∧ toN q ≤ l.length ∧ (q.mode ≠ 12 → q.op = false → x + 2 ≤ toN q) ∧ (q.op = true → toN q = l.length) ∧ (q.mode = 13 → toN q ≤ x + 2) := by
  have h1 := List.mem_of_find?_eq_some h
  have h2 : q.fr = x := by have := List.find?_some h; simpa using this
  obtain ⟨f, t, a, b, c, d, e, g, i⟩ := hL.two q h1
  have e1 : toN q = t := by unfold toN; omega
  have e2 : f = x := by omega
  subst e2
  rw [e1]
  exact ⟨h1, h2, b, c, d, e, g, i⟩
theorem dbl_same {l : List UInt8} {L : List Prt} (hL : PL l L) (e : Nat) (he : e ≤ l.length) : ∀ (m x : Nat) (here : List UInt8) (out : List Pc), dblR l L e m x here out = out ++ dblF l L e m x here (decide (out ≠ []))
  | 0, _, _, out => by simp [dblR, dblF]
  | m + 1, x, here, out => by
    unfold dblR dblF
    by_cases hx : x < e
    · rw [if_pos hx, if_pos hx]
      cases hf : findP L x with
      | none => simp only; rw [sub_one (by omega)]; exact dbl_same hL e he m _ _ _
      | some q =>
        obtain ⟨_, hfr, hto, hlt, hle, h2, _, h13⟩ := findP_some hL hf
        simp only
        by_cases hlone : loneB q x = true
        · rw [if_pos hlone, if_pos hlone, sub_one (by omega)]
          exact dbl_same hL e he m _ _ _
        · rw [if_neg hlone, if_neg hlone]
          by_cases hm : q.mode = 13
          · rw [if_pos hm, if_pos hm]
            have e1 : (if toN q = x + 2 then (if escB (l.getD (x + 1) 0) = true then here ++ sub l (x + 1) (x + 2) else if (l.getD (x + 1) 0).toNat = 10 then here else here ++ sub l x (x + 2)) else here) = here ++ escT l q x := by
              unfold escT
              have := h13 hm
              by_cases h22 : toN q = x + 2
              · have e2 : sub l (x + 1) (x + 2) = [l.getD (x + 1) 0] := sub_one (x := x + 1) (by omega)
                rw [h22, e2]
                generalize l.getD (x + 1) 0 = c
                by_cases hb : escB c = true
                · simp [hb]
                · by_cases h10 : c.toNat = 10
                  · simp [hb, h10]
                  · simp [hb, h10]
              · have h3 : toN q < x + 2 := by omega
                simp [h22, h3]
            rw [e1]
            exact dbl_same hL e he m _ _ _
          · rw [if_neg hm, if_neg hm, dbl_same hL e he m]
            have e1 : decide (((if here = [] then out else out ++ [(⟨false, true, here⟩ : Pc)]) ++ [(⟨true, true, sub l x (toN q)⟩ : Pc)]) ≠ []) = true := by simp
            rw [e1]
            unfold flQ
            by_cases hh : here = []
            · rw [if_pos hh, if_pos hh]; simp
            · rw [if_neg hh, if_neg hh]; simp
    · rw [if_neg hx, if_neg hx]
      by_cases hh : here = [] ∧ out ≠ []
      · rw [if_pos hh, if_pos ⟨hh.1, by simpa using hh.2⟩]; simp
      · rw [if_neg hh, if_neg (fun h => hh ⟨h.1, by simpa using h.2⟩)]
theorem plR_fl (P : List Pc) (buf t : List UInt8) (ht : t ≠ []) : plR (P ++ flP buf) t buf.isEmpty = P ++ flP (buf ++ t) := by
  unfold flP
  rw [if_neg (show buf ++ t ≠ [] by simp [ht])]
  cases buf with
  | nil =>
    unfold plR
    rw [if_pos rfl, List.append_nil]
    cases P.getLast? <;> simp
  | cons b buf =>
    unfold plR
    rw [if_neg (by simp)]
    simp
theorem pcs_same {l : List UInt8} {L : List Prt} (hL : PL l L) : ∀ (m x : Nat) (P : List Pc) (buf : List UInt8), pcsR l L m x (P ++ flP buf) buf.isEmpty = P ++ pcsF l L m x buf
  | 0, _, P, buf => rfl
  | m + 1, x, P, buf => by
    unfold pcsR pcsF
    by_cases hx : x < l.length
    · rw [if_pos hx, if_pos hx]
      have hgo : ∀ (t : List UInt8) (y : Nat), t ≠ [] → pcsR l L m y (plR (P ++ flP buf) t buf.isEmpty) false = P ++ pcsF l L m y (buf ++ t) := by
        intro t y ht
        rw [plR_fl P buf t ht]
        have := pcs_same hL m y P (buf ++ t)
        rwa [show (buf ++ t).isEmpty = false by cases buf <;> cases t <;> simp_all] at this
      have hnew : ∀ (Y : List Pc) (y : Nat), pcsR l L m y (P ++ flP buf ++ Y) true = P ++ (flP buf ++ (Y ++ pcsF l L m y [])) := by
        intro Y y
        have := pcs_same hL m y (P ++ flP buf ++ Y) []
        rw [show flP [] = ([] : List Pc) from rfl, List.append_nil] at this
        rw [show ([] : List UInt8).isEmpty = true from rfl] at this
        rw [this]
        simp
      cases hf : findP L x with
      | none => simp only; rw [sub_one hx]; exact hgo _ _ (by simp)
      | some q =>
        obtain ⟨_, hfr, hto, hlt, hle, h2, _, h13⟩ := findP_some hL hf
        have hne : sub l x (toN q) ≠ [] := by intro h; have := sub_len (a := x) hle; rw [h] at this; simp at this; omega
        simp only
        by_cases hlone : loneB q x = true ∨ q.mode = 14
        · rw [if_pos hlone.symm, if_pos hlone]
          exact hgo _ _ hne
        · rw [if_neg (fun h => hlone h.symm), if_neg hlone]
          by_cases hm : q.mode = 13
          · rw [if_pos hm, if_pos hm]
            have h3 := h13 hm
            by_cases h22 : toN q = x + 2
            · have hs : sub l (x + 1) (toN q) = [l.getD (x + 1) 0] := by rw [h22]; exact sub_one (by omega)
              rw [hs]
              by_cases h10 : (l.getD (x + 1) 0).toNat = 10
              · rw [if_neg (by intro h; exact h.2 h10), if_pos (.inr (by rw [show l.getD (x + 1) 0 = 10 from UInt8.toNat_inj.1 h10]))]
                exact pcs_same hL m _ P buf
              · rw [if_pos ⟨h22, h10⟩, if_neg (by rintro (h | h); cases h; injection h with h _; exact h10 (by rw [h]; rfl))]
                exact hnew [_] _
            · have hs : sub l (x + 1) (toN q) = [] := List.eq_nil_of_length_eq_zero (by rw [sub_len hle]; omega)
              rw [if_neg (fun h => h22 h.1), if_pos (.inl hs)]
              exact pcs_same hL m _ P buf
          · rw [if_neg hm, if_neg hm]
            by_cases h4 : q.mode = 4
            · rw [if_pos h4, if_pos h4]; exact hnew [_] _
            · rw [if_neg h4, if_neg h4]
              by_cases h5 : q.mode = 5
              · rw [if_pos h5, if_pos h5, dbl_same hL _ (by unfold endQ; split <;> omega)]
                exact hnew _ _
              · rw [if_neg h5, if_neg h5]; exact hnew [_] _
    · rw [if_neg hx, if_neg hx]
/-- The reference's pieces are the program's. -/
theorem pcsR_L (l : List UInt8) : pcsR l (partsL l) (l.length + 1) 0 [] true = pcsL l := pcs_same (pl_parts l) (l.length + 1) 0 [] []
/-- The texts of pieces. -/
def txL (L : List Pc) : List UInt8 := L.flatMap (·.tx)
theorem txL_snoc (L : List Pc) (x : Pc) : txL (L ++ [x]) = txL L ++ x.tx := by simp [txL]
theorem txL_len : ∀ (L : List Pc) (N : Nat), (∀ x ∈ L, x.tx.length ≤ N) → (txL L).length ≤ L.length * N
  | [], _, _ => by simp [txL]
  | x :: r, N, h => by
    have h1 := txL_len r N (fun y hy => h y (List.mem_cons_of_mem _ hy))
    have h2 := h x List.mem_cons_self
    have e : (txL (x :: r)).length = x.tx.length + (txL r).length := by simp [txL]
    rw [e, List.length_cons, Nat.succ_mul]
    omega
/-- A pattern: what is quoted has a backslash ahead of each byte. -/
def qbs (l : List UInt8) : List UInt8 := l.flatMap fun c => [92, c]
def patP (p : Pc) : List UInt8 := if p.qu = true then qbs p.tx else p.tx
def patL (L : List Pc) : List UInt8 := L.flatMap patP
theorem qbs_len (l : List UInt8) : (qbs l).length = 2 * l.length := by
  induction l with
  | nil => rfl
  | cons a r ih => simp [qbs] at ih ⊢; omega
theorem qbs_snoc (l : List UInt8) (c : UInt8) : qbs (l ++ [c]) = qbs l ++ [92, c] := by simp [qbs]
theorem patP_len (p : Pc) : (patP p).length ≤ 2 * p.tx.length := by
  unfold patP
  split
  · rw [qbs_len]; exact Nat.le_refl _
  · omega
theorem patL_snoc (L : List Pc) (x : Pc) : patL (L ++ [x]) = patL L ++ patP x := by simp [patL]
theorem txL_take {L : List Pc} {k : Nat} {x : Pc} (h : L[k]? = some x) : txL (L.take (k + 1)) = txL (L.take k) ++ x.tx := by
  obtain ⟨h1, h2⟩ := List.getElem?_eq_some_iff.1 h
  rw [List.take_succ_eq_append_getElem h1, h2, txL_snoc]
theorem patL_take {L : List Pc} {k : Nat} {x : Pc} (h : L[k]? = some x) : patL (L.take (k + 1)) = patL (L.take k) ++ patP x := by
  obtain ⟨h1, h2⟩ := List.getElem?_eq_some_iff.1 h
  rw [List.take_succ_eq_append_getElem h1, h2, patL_snoc]
theorem txL_tlen (L : List Pc) (k N : Nat) (h : ∀ x ∈ L, x.tx.length ≤ N) : (txL (L.take k)).length ≤ L.length * N := by
  have h1 := txL_len (L.take k) N (fun x hx => h x (List.mem_of_mem_take hx))
  have h2 : (L.take k).length ≤ L.length := by simp; omega
  exact Nat.le_trans h1 (Nat.mul_le_mul_right N h2)
theorem patL_len : ∀ (L : List Pc) (N : Nat), (∀ x ∈ L, x.tx.length ≤ N) → (patL L).length ≤ L.length * (2 * N)
  | [], _, _ => by simp [patL]
  | x :: r, N, h => by
    have h1 := patL_len r N (fun y hy => h y (List.mem_cons_of_mem _ hy))
    have h2 := h x List.mem_cons_self
    have h3 := patP_len x
    have e : (patL (x :: r)).length = (patP x).length + (patL r).length := by simp [patL]
    rw [e, List.length_cons, Nat.succ_mul]
    omega
def valB (l : List UInt8) : Bool := !(pcsL l).any (·.ex)
def valT (l : List UInt8) : List UInt8 := if valB l = true then txL (pcsL l) else []
def patT (l : List UInt8) : List UInt8 := if valB l = true then patL (pcsL l) else []
def quB (q : Prt) : Bool := decide (q.up < 0) && (q.mode == 13 || q.mode == 4 || q.mode == 5)
end Go.Proofs.YtffngggdelmkpaaGreatDoor
/- Plain facts on pieces: how many there are at most, and how long their texts are at most. -/
namespace Go.Proofs.YtffngggdelmkpaaGreatDoor
set_option linter.unusedVariables false
set_option linter.unusedSimpArgs false
set_option maxRecDepth 100000
def ne01 (b : List UInt8) : Nat := if b = [] then 0 else 1
theorem ne01_le (b : List UInt8) : ne01 b ≤ 1 := by unfold ne01; split <;> omega
theorem flP_len (b : List UInt8) : (flP b).length = ne01 b := by unfold flP ne01; split <;> rfl
theorem flQ_len (b : List UInt8) : (flQ b).length = ne01 b := by unfold flQ ne01; split <;> rfl
theorem dbl_len {l : List UInt8} {L : List Prt} (hL : PL l L) (e : Nat) : ∀ (m x : Nat) (here : List UInt8) (ex : Bool), (dblF l L e m x here ex).length ≤ 2 * (e - x) + 1 + ne01 here
  | 0, _, _, _ => by simp [dblF]
  | m + 1, x, here, ex => by
    unfold dblF
    by_cases hx : x < e
    · rw [if_pos hx]
      cases hf : findP L x with
      | none =>
        have h1 := dbl_len hL e m (x + 1) (here ++ [l.getD x 0]) ex
        have h2 := ne01_le (here ++ [l.getD x 0])
        simp only
        omega
      | some q =>
        obtain ⟨_, hfr, hto, hlt, hle, _⟩ := findP_some hL hf
        simp only
        split
        · have h1 := dbl_len hL e m (x + 1) (here ++ [l.getD x 0]) ex
          have h2 := ne01_le (here ++ [l.getD x 0])
          omega
        · split
          · have h1 := dbl_len hL e m (toN q) (here ++ escT l q x) ex
            have h2 := ne01_le (here ++ escT l q x)
            omega
          · have h1 := dbl_len hL e m (toN q) [] true
            rw [List.length_append, List.length_cons, flQ_len]
            simp only [ne01, if_true] at h1 ⊢
            omega
    · rw [if_neg hx]
      split
      · simp
      · simp only [List.length_cons, List.length_nil]; omega
theorem pcsF_len {l : List UInt8} {L : List Prt} (hL : PL l L) : ∀ (m x : Nat) (buf : List UInt8), (pcsF l L m x buf).length ≤ 2 * (l.length - x) + ne01 buf
  | 0, _, buf => by simp [pcsF, flP_len]
  | m + 1, x, buf => by
    unfold pcsF
    by_cases hx : x < l.length
    · rw [if_pos hx]
      have hn : ∀ y, (pcsF l L m y []).length ≤ 2 * (l.length - y) := fun y => by have := pcsF_len hL m y []; simpa [ne01] using this
      cases hf : findP L x with
      | none =>
        have h1 := pcsF_len hL m (x + 1) (buf ++ [l.getD x 0])
        have h2 := ne01_le (buf ++ [l.getD x 0])
        simp only
        omega
      | some q =>
        obtain ⟨_, hfr, hto, hlt, hle, h2, _⟩ := findP_some hL hf
        have h3 := hn (toN q)
        simp only
        split
        · have h1 := pcsF_len hL m (toN q) (buf ++ sub l x (toN q))
          have h2 := ne01_le (buf ++ sub l x (toN q))
          omega
        · split
          · split
            · have h1 := pcsF_len hL m (toN q) buf
              omega
            · rw [List.length_append, List.length_cons, flP_len]; omega
          · split
            · rw [List.length_append, List.length_cons, flP_len]; omega
            · split
              · rename_i h5
                have h4 := dbl_len hL (endQ q) (l.length + 1) (x + 1) [] false
                have h6 : endQ q ≤ toN q := by unfold endQ; split <;> omega
                simp only [ne01, if_true] at h4
                rw [List.length_append, List.length_append, flP_len]
                omega
              · rw [List.length_append, List.length_cons, flP_len]; omega
    · rw [if_neg hx, flP_len]; omega
theorem pcsL_len (l : List UInt8) : (pcsL l).length ≤ 2 * l.length := by
  have := pcsF_len (pl_parts l) (l.length + 1) 0 []
  simpa [ne01, pcsL] using this
theorem sub_le (l : List UInt8) (a b : Nat) : (sub l a b).length ≤ b - a := by unfold sub; simp; omega
theorem escT_le {l : List UInt8} {q : Prt} {x : Nat} (h : x < toN q) (h2 : toN q ≤ x + 2 ∨ True) : (escT l q x).length ≤ toN q - x := by
  unfold escT
  split
  · simp
  · split
    · simp; omega
    · split
      · simp
      · exact sub_le _ _ _
theorem flP_tx {b : List UInt8} {N : Nat} (h : b.length ≤ N) : ∀ p ∈ flP b, p.tx.length ≤ N := by
  intro p hp
  unfold flP at hp
  split at hp
  · cases hp
  · simp at hp; subst hp; exact h
theorem flQ_tx {b : List UInt8} {N : Nat} (h : b.length ≤ N) : ∀ p ∈ flQ b, p.tx.length ≤ N := by
  intro p hp
  unfold flQ at hp
  split at hp
  · cases hp
  · simp at hp; subst hp; exact h
theorem dbl_tx {l : List UInt8} {L : List Prt} (hL : PL l L) (e : Nat) (he : e ≤ l.length) : ∀ (m x : Nat) (here : List UInt8) (ex : Bool), here.length ≤ x → x ≤ l.length → ∀ p ∈ dblF l L e m x here ex, p.tx.length ≤ l.length
  | 0, _, _, _, _, _ => by intro p hp; cases hp
  | m + 1, x, here, ex, hh, hxl => by
    unfold dblF
    by_cases hx : x < e
    · rw [if_pos hx]
      cases hf : findP L x with
      | none => exact dbl_tx hL e he m (x + 1) _ ex (by simp; omega) (by omega)
      | some q =>
        obtain ⟨_, hfr, hto, hlt, hle, _⟩ := findP_some hL hf
        simp only
        split
        · exact dbl_tx hL e he m (x + 1) _ ex (by simp; omega) (by omega)
        · split
          · exact dbl_tx hL e he m (toN q) _ ex (by have := escT_le (l := l) hlt (.inr trivial); simp; omega) hle
          · intro p hp
            rcases List.mem_append.1 hp with hp | hp
            · exact flQ_tx (by omega) p hp
            · rcases List.mem_cons.1 hp with rfl | hp
              · have := sub_le l x (toN q); simp only; omega
              · exact dbl_tx hL e he m (toN q) [] true (by simp) hle p hp
    · rw [if_neg hx]
      split
      · intro p hp; cases hp
      · intro p hp
        simp at hp
        subst hp
        simp only
        omega
theorem pcsF_tx {l : List UInt8} {L : List Prt} (hL : PL l L) : ∀ (m x : Nat) (buf : List UInt8), buf.length ≤ x → x ≤ l.length → ∀ p ∈ pcsF l L m x buf, p.tx.length ≤ l.length
  | 0, _, buf, h, hx => flP_tx (by omega)
  | m + 1, x, buf, h, hxl => by
    unfold pcsF
    by_cases hx : x < l.length
    · rw [if_pos hx]
      cases hf : findP L x with
      | none => exact pcsF_tx hL m (x + 1) _ (by simp; omega) (by omega)
      | some q =>
        obtain ⟨_, hfr, hto, hlt, hle, h2, _⟩ := findP_some hL hf
        have hn := pcsF_tx hL m (toN q) [] (by simp) hle
        have hone : ∀ (y : Pc), y.tx.length ≤ l.length → ∀ p ∈ flP buf ++ y :: pcsF l L m (toN q) [], p.tx.length ≤ l.length := by
          intro y hy p hp
          rcases List.mem_append.1 hp with hp | hp
          · exact flP_tx (by omega) p hp
          · rcases List.mem_cons.1 hp with rfl | hp
            · exact hy
            · exact hn p hp
        have hend : endQ q ≤ toN q := by unfold endQ; split <;> omega
        simp only
        split
        · exact pcsF_tx hL m (toN q) _ (by have := sub_le l x (toN q); simp; omega) hle
        · split
          · split
            · exact pcsF_tx hL m (toN q) buf (by omega) hle
            · exact hone _ (by have := sub_le l (x + 1) (toN q); simp only; omega)
          · split
            · exact hone _ (by have := sub_le l (x + 1) (endQ q); simp only; omega)
            · split
              · intro p hp
                rcases List.mem_append.1 hp with hp | hp
                · exact flP_tx (by omega) p hp
                · rcases List.mem_append.1 hp with hp | hp
                  · exact dbl_tx hL (endQ q) (by omega) _ (x + 1) [] false (by simp) (by omega) p hp
                  · exact hn p hp
              · exact hone _ (by have := sub_le l x (toN q); simp only; omega)
    · rw [if_neg hx]
      exact flP_tx (by omega)
theorem pcsL_tx (l : List UInt8) : ∀ p ∈ pcsL l, p.tx.length ≤ l.length := pcsF_tx (pl_parts l) (l.length + 1) 0 [] (by simp) (by omega)
end Go.Proofs.YtffngggdelmkpaaGreatDoor
/- Plain facts: a text of bytes that open nothing has no part; it is its own value and pattern. -/
namespace Go.Proofs.YtffngggdelmkpaaGreatDoor
set_option linter.unusedVariables false
set_option linter.unusedSimpArgs false
set_option maxRecDepth 100000
/-- Bytes that open nothing at a program's top. -/
def calm (b : UInt8) : Prop := b.toNat ≠ 92 ∧ b.toNat ≠ 39 ∧ b.toNat ≠ 34 ∧ b.toNat ≠ 96 ∧ b.toNat ≠ 36 ∧ b.toNat ≠ 35 ∧ b.toNat ≠ 40 ∧ b.toNat ≠ 41
theorem calm_step (f : Bool) (b : UInt8) (a : Int) (h : calm b) : (rStep [(84, 0)] f b a).1 = [(84, 0)] := by
  obtain ⟨h1, h2, h3, h4, h5, h6, h7, h8⟩ := h
  simp [rStep, rPlain, rProgram, h1, h2, h3, h4, h5, h6, h7, h8]
theorem calm_at {l : List UInt8} (h : ∀ b ∈ l, calm b) : ∀ k, k ≤ l.length → (rAt l k).1 = [(84, 0)]
  | 0, _ => rfl
  | k + 1, hk => by
    have ih := calm_at h k (by omega)
    show (rStep (rAt l k).1 (rAt l k).2 (l.getD k 0) k).1 = _
    rw [ih]
    refine calm_step _ _ _ (h _ ?_)
    rw [List.getD_eq_getElem?_getD, List.getElem?_eq_getElem (by omega)]
    exact List.getElem_mem _
theorem calm_FT {l : List UInt8} (h : ∀ b ∈ l, calm b) {k : Nat} (hk : k ≤ l.length) : FT l k = [] := by
  unfold FT XT
  rw [calm_at h k hk]
  rfl
theorem calm_parts {l : List UInt8} (h : ∀ b ∈ l, calm b) : partsL l = [] := by
  rw [parts_flat]
  refine List.flatMap_eq_nil_iff.2 fun f hf => ?_
  have hf := List.mem_range.1 hf
  rw [calm_FT h (k := f + 1) (by omega)]
  rfl
theorem pcsF_none {l : List UInt8} : ∀ (m x : Nat) (buf : List UInt8), l.length < m + x → x ≤ l.length → buf = l.take x → pcsF l [] m x buf = flP l
  | 0, x, buf, h, hx, hb => by omega
  | m + 1, x, buf, h, hx, hb => by
    unfold pcsF
    by_cases hl : x < l.length
    · rw [if_pos hl]
      show pcsF l [] m (x + 1) (buf ++ [l.getD x 0]) = flP l
      refine pcsF_none m (x + 1) _ (by omega) (by omega) ?_
      rw [hb, List.take_succ_eq_append_getElem hl, List.getD_eq_getElem?_getD, List.getElem?_eq_getElem hl]
      rfl
    · rw [if_neg hl, hb, List.take_of_length_le (by omega)]
theorem calm_pcs {l : List UInt8} (h : ∀ b ∈ l, calm b) : pcsL l = flP l := by
  unfold pcsL
  rw [calm_parts h]
  exact pcsF_none _ _ _ (by omega) (by omega) rfl
end Go.Proofs.YtffngggdelmkpaaGreatDoor
