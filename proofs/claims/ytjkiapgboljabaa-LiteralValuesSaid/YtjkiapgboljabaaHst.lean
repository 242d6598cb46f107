/- A region that draws its order: first a forced row of operations that may do anything, then operations that only read, in whatever order, then a forced row again. One walk, in the order of the text. -/
import Derived.Test.YtjkiapgboljabaaRf
import Derived.StillTailTactics
namespace Go.Proofs.Ytjkiapgboljabaa
open Go.RowKit
set_option linter.unusedVariables false
set_option linter.unusedSimpArgs false
set_option maxRecDepth 100000
theorem still_wpIn {P : Program} {n : Nat} {w : World} {o : Oper} {a : Act} {K : Act → Prop} {K' : Act → World → Prop} {Q' : Exit → Act → World → Prop} (h : ∀ a, K a → K' a w) (hh : o.still P a w K) : o.wpIn Fence.wide n P a w K' Q' := by
  unfold Oper.still at hh
  unfold Oper.wpIn
  refine ⟨fun _ _ => trivial, ?_⟩
  rw [show Fence.wide.round = none from rfl, Oper.semAt_none]
  generalize (execOp a.eval o).run P w = r at *
  cases r with
  | ok m w' =>
    cases m <;> simp only [Oper.stillUpon] at hh <;> simp only [Oper.uponIn]
    case enter f args =>
      obtain ⟨rfl, v, hc, hn⟩ := hh
      exact ⟨fun h => by simp [Fence.wide] at h, (callsIn_wide.2 hc).mono fun e w'' ⟨he, hw⟩ => by subst he; subst hw; exact h _ hn⟩
    all_goals (obtain ⟨rfl, h2⟩ := hh; exact h _ h2)
  | halt x w' => simp only [Oper.stillUpon] at hh
theorem still_wpOpIn {P : Program} {n : Nat} {ops : Array Oper} {w : World} {i : Nat} {a : Act} {K : Act → Prop} {K' : Act → World → Prop} {Q' : Exit → Act → World → Prop} (h : ∀ a, K a → K' a w) (hh : stOp P ops w i K a) : wpOpIn Fence.wide n P ops Q' i K' a w := by
  unfold stOp at hh
  unfold wpOpIn
  split
  · rename_i ho; simp only [ho] at hh; exact h _ hh
  · rename_i o ho
    simp only [ho] at hh
    split
    · rename_i hw; simp only [hw, if_true] at hh; exact still_wpIn h hh
    · rename_i hw; simp only [hw] at hh; exact ⟨fun _ _ => trivial, h _ hh⟩
theorem anyIn_of_head {P : Program} {n : Nat} {md : Region.Mode} {ops : Array Oper} {w : World} {k g : Nat} {L : Array Bool → Act → Prop} {Q' : Exit → Act → World → Prop} (hL : ∀ listed a, L listed a → wpAnyIn Fence.wide n P md ops Q' g listed a w) :
    ∀ (f : Nat) (listed : Array Bool) (a : Act), wpAnyL P md ops w k L f listed a → wpAnyIn Fence.wide n P md ops Q' (f + g) listed a w
  | 0, listed, a, h => by rw [Nat.zero_add]; exact hL _ _ h
  | f + 1, listed, a, h => by
    rw [show f + 1 + g = (f + g) + 1 by omega]
    exact ⟨fun h0 => absurd h0 h.1, fun i hi => still_wpOpIn (fun a' h' => anyIn_of_head hL f _ a' h') (h.2 i hi).2⟩
theorem anyIn_of_seq {P : Program} {n : Nat} {md : Region.Mode} {ops : Array Oper} {Q' : Exit → Act → World → Prop} : ∀ (l : List Oper) (k : Nat) (listed : Array Bool) (a : Act) (w : World), (∀ j, l[j]? = ops[k + j]?) →
    Region.seqB md ops l.length k listed = true → wpListIn Fence.wide n P ops Q' l a w → wpAnyIn Fence.wide n P md ops Q' l.length listed a w
  | [], _, _, _, _, _, hB, h => ⟨by simpa [Region.seqB] using hB, h⟩
  | o :: l, k, listed, a, w, hl, hB, h => by
    have h0 : ops[k]? = some o := by simpa using (hl 0).symm
    simp only [List.length_cons, Region.seqB, Bool.and_eq_true, decide_eq_true_eq] at hB
    refine ⟨fun h1 => (by rw [hB.1] at h1; cases h1), fun i hi => ?_⟩
    rw [hB.1] at hi
    have hik : i = k := by simpa using hi
    subst hik
    have hw : wpOpIn Fence.wide n P ops Q' i (wpListIn Fence.wide n P ops Q' l) a w := by unfold wpOpIn; simp only [h0]; exact h
    exact wpOpIn_mono (fun a' w' h' => anyIn_of_seq l (i + 1) _ a' w' (fun j => by have := hl (j + 1); simpa [Nat.add_assoc, Nat.add_comm 1 j] using this) hB.2 h') hw
/-- The first f operations come up one by one; then the rest as in a region with a forced tail. -/
def hstHead (md : Region.Mode) (ops : Array Oper) (g s : Nat) : Nat → Nat → Array Bool → Bool
  | 0, k, listed => Region.lexHead md ops g s k listed
  | f + 1, k, listed => decide (Region.ready md ops listed = [k]) && hstHead md ops g s f (k + 1) (listed.setIfInBounds k true)
def hstB (md : Region.Mode) (ops : Array Oper) (m n : Nat) : Bool :=
  Region.noSelect ops && decide (n < ops.size) && decide (m ≤ n) && Region.sinkB md ops n && Region.chainB md ops n && hstHead md ops (ops.size - n) (n - m) m 0 (Array.replicate ops.size false)
/-- A goal that the walk does not open. -/
structure Behind (p : Prop) : Prop where
  out : p
/-- Behind the head: what only reads, then the tail. -/
def hstQ (F : Nat) (P : Program) (ops : Array Oper) (Q : Exit → Act → World → Prop) (mid tl : List Oper) : Exit → Act → World → Prop
  | .normal, a, w => Behind (wpStill P ops w (fun a' => wpListIn Fence.wide F P ops Q tl a' w) mid a)
  | e, a, w => Q e a w
theorem hst_mid {F : Nat} {P : Program} {ops : Array Oper} {Q : Exit → Act → World → Prop} {mid tl : List Oper} {a : Act} {w : World} (h : wpStill P ops w (fun a' => wpListIn Fence.wide F P ops Q tl a' w) mid a) : hstQ F P ops Q mid tl .normal a w := Behind.mk h
theorem hst_out {F : Nat} {P : Program} {ops : Array Oper} {Q : Exit → Act → World → Prop} {mid tl : List Oper} (h : LetsOut (hstQ F P ops Q mid tl)) : LetsOut Q := h
theorem hst_oper {F : Nat} {P : Program} {ops : Array Oper} {Q : Exit → Act → World → Prop} {mid tl : List Oper} {o : Oper} {a : Act} {w : World} {K : Act → World → Prop} (h : o.wpIn Fence.wide F P a w K (hstQ F P ops Q mid tl)) : o.wpIn Fence.wide F P a w K Q := by
  unfold Oper.wpIn at *
  refine ⟨h.1, ?_⟩
  have hh := h.2
  generalize (o.semAt Fence.wide.round a.eval).run P w = r at *
  cases r with
  | ok x w' =>
    cases x <;> simp only [Oper.uponIn] at hh ⊢ <;>
      first
        | exact hh
        | exact ⟨hh.1, CallsIn.mono hh.2 (fun e w'' he => by cases e <;> exact he)⟩
        | exact ⟨hh.1, RowsIn.mono hh.2 (fun _ _ he => he)⟩
        | exact ⟨hh.1, RoundIn.mono hh.2 (fun e w'' he => by cases e <;> exact he)⟩
  | halt x w' => cases x <;> simp only [Oper.uponIn] at hh ⊢ <;> exact hh
theorem anyIn_of_hst {P : Program} {n N : Nat} {ops : Array Oper} {Q : Exit → Act → World → Prop} {md : Region.Mode} {mid tl : List Oper} {g : Nat} (hsel : Region.noSelect ops = true) (hs : Region.sinkB md ops N = true) (hc : Region.chainB md ops N = true) (hn : N < ops.size)
    (hmid : mid = (ops.toList.drop (N - mid.length)).take mid.length) (hml : mid.length ≤ N) (htl : tl = ops.toList.drop N) (hg : g = tl.length) :
    ∀ (l : List Oper) (k : Nat) (listed : Array Bool) (a : Act) (w : World), (∀ j, j < l.length → l[j]? = ops[k + j]?) → k + l.length = N - mid.length → HeadInv md ops N listed →
    hstHead md ops g mid.length l.length k listed = true → wpListIn Fence.wide n P ops (hstQ n P ops Q mid tl) l a w → wpAnyIn Fence.wide n P md ops Q (l.length + (mid.length + g)) listed a w
  | [], k, listed, a, w, hl, hk, inv, hB, h => by
    have hk' : k = N - mid.length := by simpa using hk
    have hB' : Region.lexHead md ops g mid.length k listed = true := hB
    have h0 : Behind (wpStill P ops w (fun a' => wpListIn Fence.wide n P ops Q tl a' w) mid a) := h
    have h' := h0.out
    have H := wpAnyL_lex (md := md) (g := g) (P := P) (w := w) hsel hs hc hn mid k listed a (fun j hj => by
      rw [hmid, List.getElem?_take_of_lt hj, List.getElem?_drop, hk']
      simp) (by omega) inv hB' h'
    have := anyIn_of_head (n := n) (Q' := Q) (g := g) (fun listed' a' hL => by
      have h3 := anyIn_of_seq (n := n) (md := md) (Q' := Q) tl N listed' a' w (fun j => by rw [htl, List.getElem?_drop]; simp) (by rw [← hg]; exact hL.1) hL.2
      rwa [← hg] at h3) _ _ _ H
    simpa using this
  | o :: l, k, listed, a, w, hl, hk, inv, hB, h => by
    have h0 : ops[k]? = some o := by simpa using (hl 0 (by simp)).symm
    simp only [List.length_cons, hstHead, Bool.and_eq_true, decide_eq_true_eq] at hB
    have hkN : k < N := by simp only [List.length_cons] at hk; omega
    rw [show (o :: l).length + (mid.length + g) = (l.length + (mid.length + g)) + 1 by simp only [List.length_cons]; omega]
    refine ⟨fun h1 => (by rw [hB.1] at h1; cases h1), fun i hi => ?_⟩
    have hi0 := hi
    rw [hB.1] at hi
    have hik : i = k := by simpa using hi
    subst hik
    have hw : wpOpIn Fence.wide n P ops Q i (wpListIn Fence.wide n P ops (hstQ n P ops Q mid tl) l) a w := by
      unfold wpOpIn
      simp only [h0]
      have h4 : (if Region.wanted o (yielded ops a.tmps) = true then o.wpIn Fence.wide n P a w (wpListIn Fence.wide n P ops (hstQ n P ops Q mid tl) l) (hstQ n P ops Q mid tl) else (∀ f, o.about P w a.eval = some f → Fence.wide.fn f) ∧ wpListIn Fence.wide n P ops (hstQ n P ops Q mid tl) l (a.put o.dst undef) w) := h
      split
      · rename_i hw
        rw [if_pos hw] at h4
        exact hst_oper h4
      · rename_i hw
        rw [if_neg hw] at h4
        exact h4
    exact wpOpIn_mono (fun a' w' h' => anyIn_of_hst hsel hs hc hn hmid hml htl hg l (i + 1) _ a' w' (fun j hj => by have := hl (j + 1) (by simp; omega); simpa [Nat.add_assoc, Nat.add_comm 1 j] using this) (by simp only [List.length_cons] at hk; omega) (inv.set hi0 hkN) hB.2 h') hw
theorem region_hst0 {P : Program} {n : Nat} {id : Nat} {Q : Exit → Act → World → Prop} {a : Act} {w : World} {l : List Oper} (m N : Nat) (hm : P.follows .mixedOrders = true) (hB : hstB .any l.toArray m N = true)
    (h : wpListIn Fence.wide n P l.toArray (hstQ n P l.toArray Q ((l.take N).drop m) (l.drop N)) (l.take m) a w.drew) : (Code.region id l.toArray true).wpIn Fence.wide n P Q a w := by
  simp only [hstB, Bool.and_eq_true, decide_eq_true_eq] at hB
  obtain ⟨⟨⟨⟨⟨hsel, hn⟩, hmN⟩, hs⟩, hc⟩, hlex⟩ := hB
  have hn' : N < l.length := by simpa using hn
  have e1 : ((l.take N).drop m).length = N - m := by simp; omega
  have e2 : (l.drop N).length = l.toArray.size - N := by simp
  have e3 : (l.take m).length = m := by simp; omega
  have inv0 : HeadInv .any l.toArray N (Array.replicate l.toArray.size false) :=
    ⟨by simp, fun j oj _ hl => (by rw [getD_replicate_false] at hl; cases hl), fun t _ ht => getD_in (by simpa using ht) (getD_replicate_false _ _)⟩
  refine wpIn_region_any hm ?_
  have H := anyIn_of_hst (n := n) (P := P) (Q := Q) (mid := (l.take N).drop m) (tl := l.drop N) (g := l.toArray.size - N) hsel hs hc hn (by
    rw [e1, show N - (N - m) = m by omega]
    simp only [List.drop_take]) (by rw [e1]; omega) (by simp) e2.symm (l.take m) 0 (Array.replicate l.toArray.size false) a w.drew (fun j hj => by
    rw [e3] at hj
    simp [List.getElem?_take_of_lt hj]) (by rw [e1, e3]; omega) inv0 (by rw [e1, e3]; exact hlex) h
  rw [e1, e3, show m + (N - m + (l.toArray.size - N)) = l.toArray.size by simp; omega] at H
  exact H
/-- Behind the head, the goal under a name. -/
def hstK (K : Act → World → Prop) (Q : Exit → Act → World → Prop) : Exit → Act → World → Prop
  | .normal, a, w => K a w
  | e, a, w => Q e a w
theorem hstK_normal (K : Act → World → Prop) (Q : Exit → Act → World → Prop) (a : Act) (w : World) : hstK K Q .normal a w = K a w := rfl
theorem hstK_is (F : Nat) (P : Program) (ops : Array Oper) (Q : Exit → Act → World → Prop) (mid tl : List Oper) : hstK (fun a w => Behind (wpStill P ops w (fun a' => wpListIn Fence.wide F P ops Q tl a' w) mid a)) Q = hstQ F P ops Q mid tl := by
  funext e a w
  cases e <;> rfl
theorem wpIn_region_hst {P : Program} {n : Nat} {id : Nat} {Q : Exit → Act → World → Prop} {a : Act} {w : World} {l : List Oper} (m N : Nat) (hm : P.follows .mixedOrders = true) (hB : hstB .any l.toArray m N = true)
    (h : ∀ K : Act → World → Prop, (∀ a1 w1, wpStill P l.toArray w1 (fun a' => wpListIn Fence.wide n P l.toArray Q (l.drop N) a' w1) ((l.take N).drop m) a1 → K a1 w1) → wpListIn Fence.wide n P l.toArray (hstK K Q) (l.take m) a w.drew) : (Code.region id l.toArray true).wpIn Fence.wide n P Q a w := by
  refine region_hst0 m N hm hB ?_
  have := h _ (fun a1 w1 h1 => Behind.mk h1)
  rwa [hstK_is] at this
end Go.Proofs.Ytjkiapgboljabaa
