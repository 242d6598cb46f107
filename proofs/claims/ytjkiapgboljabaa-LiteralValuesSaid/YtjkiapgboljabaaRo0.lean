/- quillwortref07.at and .mode. -/
import Derived.Test.YtjkiapgboljabaaPa0
import Derived.Test.YtjkiapgboljabaaRefM3
import Derived.Test.YtjkiapgboljabaaMo9
import Derived.Test.YtjkiapgboljabaaRcls
namespace Go.Proofs.Ytjkiapgboljabaa
open Go.RowKit
set_option linter.unusedVariables false
set_option linter.unusedSimpArgs false
set_option maxRecDepth 100000
theorem idx_take {X : List Int} {t : Nat} {p : Int} (hn : p ∉ X.take t) (h : X[t]? = some p) : p ∈ X ∧ X.idxOf p = t := by
  obtain ⟨ht, he⟩ := List.getElem?_eq_some_iff.1 h
  refine ⟨List.mem_of_getElem? h, ?_⟩
  have e : X = X.take t ++ p :: X.drop (t + 1) := by rw [← he, ← List.drop_eq_getElem_cons ht, List.take_append_drop]
  rw [e, List.idxOf_append, if_neg hn]
  simp; omega
theorem take_not {X : List Int} {t : Nat} {p q : Int} (hn : p ∉ X.take t) (h : X[t]? = some q) (hq : q ≠ p) : p ∉ X.take (t + 1) := by
  obtain ⟨ht, he⟩ := List.getElem?_eq_some_iff.1 h
  rw [List.take_succ_eq_append_getElem ht, he]
  simp [hn, Ne.symm hq]
def atX (X : List Int) (p : Int) : Nat := if p ∈ X then X.idxOf p + 1 else 0
set_option maxHeartbeats 1000000 in
theorem at_r (st : Stk) (S : List UInt8) (A : Option Addr) (n k : Nat) (f : Bool) (z p : Int) (X : List Int) (w : World) (hr : Rs w S A n k st) (hX : rP st = z :: X) (hl : st.length ≤ 1000) :
    Calls Try.prog 54 #[.agg #[.string ⟨S.toArray⟩, .slice A n k, .bool f], .int .i64 p] w fun e w' => e = .returned (.int .i64 (atX X p : Int)) ∧ Below w.heap.size w w' := by
  have hn : n = X.length + 1 := by rw [hr.2.1, ← rP_len, hX]; rfl
  have hX1 : X.length ≤ 1000 := by have := hr.2.1; omega
  have hd := hr.2.2.rd
  rw [hX] at hd
  subst hn
  clear hr
  obtain ⟨g, o, rfl, hg, hc⟩ : ∃ g o, A = some ⟨g, o, none⟩ ∧ g < w.heap.size ∧ ∀ j u, ((z :: X).map (Value.int .i64))[j]? = some u → w.cell? ⟨g, o + j, none⟩ = some u := by
    obtain ⟨_, A', c', he, _, _, _, h2⟩ := hd
    cases he
    exact h2 (by omega)
  have HC := Lib.hid (And.intro hc hX)
  clear hc hd hX
  go_enter Try.func54, Try.ntmps54
  go_wp2_with fail
  go_loopw [5] (fun i wr => ∃ t : Nat, t ≤ X.length ∧ i = .int .i64 ((t + 1 : Nat) : Int) ∧ p ∉ X.take t ∧ wr = w.alloc (.cells #[.string ⟨S.toArray⟩, .slice (some ⟨g, o, none⟩) (X.length + 1) k, .bool f] 30)) (fun i _ => X.length + 1 - (intOf i).toNat)
  case atStart => exact ⟨0, by omega, rfl, by simp, rfl⟩
  case round =>
    obtain ⟨t, ht, rfl, hnot, rfl⟩ := hrel
    have HN := Lib.hid hnot
    clear hnot
    have hgw : ¬ g = w.heap.size := by omega
    by_cases htX : t < X.length
    · obtain ⟨q, hq⟩ : ∃ q, X[t]? = some q := ⟨_, List.getElem?_eq_getElem htX⟩
      have y0 : (w.alloc (.cells #[.string ⟨S.toArray⟩, .slice (some ⟨g, o, none⟩) (X.length + 1) k, .bool f] 30)).cell? ⟨g, o + (t + 1), none⟩ = some (.int .i64 q) :=
        ((Below.alloc (Below.refl _ _) (Nat.le_refl _) _).cell (p := ⟨g, o + (t + 1), none⟩) hg).trans (HC.out.1 (t + 1) _ (by rw [List.map_cons, List.getElem?_cons_succ, List.getElem?_map, hq]; rfl))
      have HQ := Lib.hid hq
      clear hq
      have v1 : ((t + 1 : Nat) : Int) < ((X.length + 1 : Nat) : Int) := by omega
      have v2 : (0 : Int) ≤ ((t + 1 : Nat) : Int) := by omega
      have v3 : (t : Int) + 1 < (X.length : Int) + 1 := by omega
      have v4 : (0 : Int) ≤ (t : Int) + 1 := by omega
      have v5 : (t : Int) + 1 < ((X.length + 1 : Nat) : Int) := by omega
      have v6 : (t : Int) < (X.length : Int) := by omega
      have v7 : ((t : Int) + 1).toNat = t + 1 := by omega
      by_cases hqp : q = p
      · subst hqp
        go_wp2_with fail
        go_ret
        obtain ⟨h1, h2⟩ := idx_take HN.out HQ.out
        refine ⟨?_, Below.alloc (Below.refl _ _) (Nat.le_refl _) _⟩
        unfold atX
        rw [if_pos h1, h2]
        rfl
      · have t1 : (q == p) = false := by simpa using hqp
        go_wp2_with fail
        exact ⟨⟨t + 1, by omega, by go_num, take_not HN.out HQ.out hqp, by first | rfl | trivial⟩, by simp [intOf]; omega⟩
    · obtain rfl : t = X.length := by omega
      go_wp2_with fail
      go_ret
      have hno := HN.out
      rw [List.take_of_length_le (Nat.le_refl _)] at hno
      refine ⟨?_, Below.alloc (Below.refl _ _) (Nat.le_refl _) _⟩
      unfold atX
      rw [if_neg hno]
      rfl
end Go.Proofs.Ytjkiapgboljabaa
/- quillwortref07.mode: how a frame's letter counts. -/
namespace Go.Proofs.Ytjkiapgboljabaa
open Go.RowKit
set_option linter.unusedVariables false
set_option linter.unusedSimpArgs false
set_option maxRecDepth 100000
theorem let_first (c : UInt8) (h : Val c = true) : ∃ m : Nat, m < 15 ∧ modeOf c = (m : Int) ∧ ([84, 67, 80, 79, 83, 68, 66, 86, 73, 65, 82, 69, 76, 88, 35] : List UInt8)[m]? = some c ∧ ∀ j, j < m → ∀ d, ([84, 67, 80, 79, 83, 68, 66, 86, 73, 65, 82, 69, 76, 88, 35] : List UInt8)[j]? = some d → d ≠ c := by
  obtain ⟨m, h1, h2, h3⟩ := letters_at c h
  refine ⟨m, h1, h2, h3, fun j hj d hd e => ?_⟩
  subst e
  have key : ∀ m : Nat, m < 15 → ∀ j : Nat, j < m → ([84, 67, 80, 79, 83, 68, 66, 86, 73, 65, 82, 69, 76, 88, 35] : List UInt8)[j]? ≠ ([84, 67, 80, 79, 83, 68, 66, 86, 73, 65, 82, 69, 76, 88, 35] : List UInt8)[m]? := by decide +kernel
  exact key m h1 j hj (hd.trans h3.symm)
set_option maxHeartbeats 1000000 in
theorem mode_r (c : UInt8) (w : World) (hv : Val c = true) :
    Calls Try.prog 55 #[.int .u8 (c.toNat : Int)] w fun e w' => e = .returned (.int .i64 (cnt c)) ∧ w = w' := by
  by_cases h79 : c.toNat = 79
  · have e : cnt c = 1 := by unfold cnt modeOf cntM; simp [h79]
    rw [e, h79]
    go_enter Try.func55, Try.ntmps55
    go_wp2_with fail
    go_ret
    exact ⟨rfl, rfl⟩
  · by_cases h69 : c.toNat = 69
    · have e : cnt c = 9 := by unfold cnt modeOf cntM; simp [h69]
      rw [e, h69]
      go_enter Try.func55, Try.ntmps55
      go_wp2_with fail
      go_ret
      exact ⟨rfl, rfl⟩
    · obtain ⟨m, hm, hmo, hl, hno⟩ := let_first c hv
      have t1 : ((c.toNat : Int) == 79) = false := by rw [beq_eq_false_iff_ne]; omega
      have t2 : ((c.toNat : Int) == 69) = false := by rw [beq_eq_false_iff_ne]; omega
      have e : cnt c = (m : Int) := by
        unfold cnt cntM
        have h3 : modeOf c ≠ 3 := by
          have := byte_all (fun c => decide (modeOf c = 3) == decide (c.toNat = 79)) (by decide +kernel) c
          simp at this
          exact fun hh => h79 (this.1 hh)
        have h11 : modeOf c ≠ 11 := by
          have := byte_all (fun c => decide (modeOf c = 11) == decide (c.toNat = 69)) (by decide +kernel) c
          simp at this
          exact fun hh => h69 (this.1 hh)
        rw [if_neg h3, if_neg h11, hmo]
      rw [e]
      have HN := Lib.hid (And.intro hl hno)
      clear e hmo hl hno h79 h69 hv
      go_enter Try.func55, Try.ntmps55
      go_wp2_with fail
      go_loopw [3] (fun i wr => ∃ t : Nat, t ≤ m ∧ i = .int .i64 t ∧ wr = w) (fun i _ => m + 1 - (intOf i).toNat)
      case atStart => exact ⟨0, by omega, rfl, rfl⟩
      case round =>
        obtain ⟨t, ht, rfl, rfl⟩ := hrel
        have v1 : (t : Int) < 15 := by omega
        have v2 : (0 : Int) ≤ (t : Int) := by omega
        have ht15 : t < 15 := by omega
        obtain ⟨c0, hc0⟩ : ∃ c0, ([84, 67, 80, 79, 83, 68, 66, 86, 73, 65, 82, 69, 76, 88, 35] : List UInt8)[t]? = some c0 := ⟨_, List.getElem?_eq_getElem ht15⟩
        have hL : ∃ h : t < (ByteArray.mk #[84, 67, 80, 79, 83, 68, 66, 86, 73, 65, 82, 69, 76, 88, 35]).size, (ByteArray.mk #[84, 67, 80, 79, 83, 68, 66, 86, 73, 65, 82, 69, 76, 88, 35])[t]'h = c0 := by
          obtain ⟨h1, h2⟩ := List.getElem?_eq_some_iff.1 hc0
          exact ⟨ht15, h2⟩
        obtain ⟨hL1, hL2⟩ := hL
        have HC := Lib.hid hc0
        clear hc0
        by_cases htm : t = m
        · have hcc : c0 = c := by have h1 := HC.out; rw [htm, HN.out.1] at h1; exact (Option.some.inj h1).symm
          subst hcc
          have hi : (t : Int) = (m : Int) := by omega
          have HI := Lib.hid hi
          clear hi htm
          go_wp2_with fail
          go_ret
          exact ⟨by rw [HI.out]; rfl, rfl⟩
        · have t3 : ((c0.toNat : Int) == (c.toNat : Int)) = false := by
            rw [beq_eq_false_iff_ne]
            intro e
            exact HN.out.2 t (by omega) c0 HC.out (UInt8.toNat_inj.1 (by omega))
          go_wp2_with fail
          exact ⟨⟨t + 1, by omega, by go_num, by first | rfl | trivial⟩, by simp [intOf]; omega⟩
end Go.Proofs.Ytjkiapgboljabaa
/- quillwortref07.Of: the row of states, as the walk holds it. -/
namespace Go.Proofs.Ytjkiapgboljabaa
open Go.RowKit
set_option linter.unusedVariables false
set_option linter.unusedSimpArgs false
set_option maxRecDepth 100000
structure SV where
  S : List UInt8
  A : Option Addr
  n : Nat
  k : Nat
  f : Bool
def svc (t : SV) : List Value := [.string ⟨t.S.toArray⟩, .slice t.A t.n t.k, .bool t.f]
def svs (T : List SV) : List Value := T.flatMap svc
theorem svs_append (T U : List SV) : svs (T ++ U) = svs T ++ svs U := by simp [svs]
theorem svs_one (t : SV) : svs [t] = svc t := by simp [svs]
theorem svs_get : ∀ (T : List SV) (i : Nat) (t : SV), T[i]? = some t → ∀ j u, (svc t)[j]? = some u → (svs T)[i * 3 + j]? = some u
  | [], i, t, h, _, _, _ => by simp at h
  | x :: T, 0, t, h, j, u, hu => by
    simp at h; subst h
    have hj : j < 3 := (List.getElem?_eq_some_iff.1 hu).1
    show (svc x ++ svs T)[0 * 3 + j]? = _
    rw [Nat.zero_mul, Nat.zero_add, List.getElem?_append_left hj]
    exact hu
  | x :: T, i + 1, t, h, j, u, hu => by
    show (svc x ++ svs T)[(i + 1) * 3 + j]? = _
    have e : (svc x).length = 3 := rfl
    rw [List.getElem?_append_right (by rw [e]; omega), e, show (i + 1) * 3 + j - 3 = i * 3 + j by omega]
    exact svs_get T i t (by simpa using h) j u hu
/-- The states behind all beginnings of at most m bytes. -/
def AR (w : World) (B : Nat) (v : Value) (l : List UInt8) (m : Nat) (T : List SV) : Prop :=
  T.length = m + 1 ∧ w.ownsRow B 30 3 v (m + 1) (svs T) ∧ ∀ i t, T[i]? = some t → Rs w t.S t.A t.n t.k (rAt l i).1 ∧ t.f = (rAt l i).2
theorem AR.next {w w' : World} {B m : Nat} {v : Value} {l : List UInt8} {T : List SV} (h : AR w B v l m T) (hb : Below w.heap.size w w') : AR w' B v l m T :=
  ⟨h.1, own_below h.2.1 hb, fun i t hi => ⟨(h.2.2 i t hi).1.next hb, (h.2.2 i t hi).2⟩⟩
end Go.Proofs.Ytjkiapgboljabaa
