/- The reference's machine (quillwortref06: program, plain, Step, First, Run, End): it computes rProgram, rPlain, rStep on a stack of letters and places. -/
import Derived.Test.YtjkiapgboljabaaRefSt
import Derived.Test.YtjkiapgboljabaaByte
namespace Go.Proofs.Ytjkiapgboljabaa
open Go.RowKit
set_option linter.unusedVariables false
set_option linter.unusedSimpArgs false
set_option maxRecDepth 100000
/-- A state of the reference in memory: its letters, its places. -/
def Rs (w : World) (S : List UInt8) (A : Option Addr) (n k : Nat) (st : Stk) : Prop := S = rS st ∧ n = st.length ∧ Rt w 3 1 (.slice A n k) n ((rP st).map (.int .i64))
theorem Rs.next {w w' : World} {S : List UInt8} {A : Option Addr} {n k : Nat} {st : Stk} (h : Rs w S A n k st) (hb : Below w.heap.size w w') : Rs w' S A n k st := ⟨h.1, h.2.1, h.2.2.next hb⟩
theorem Rs.len {w : World} {S : List UInt8} {A : Option Addr} {n k : Nat} {st : Stk} (h : Rs w S A n k st) : S.length = st.length := by rw [h.1, rS_len]
theorem Rs.bds {w : World} {S : List UInt8} {A : Option Addr} {n k : Nat} {st : Stk} (h : Rs w S A n k st) : n = st.length ∧ S.length = n ∧ n ≤ k ∧ k ≤ maxLen := ⟨h.2.1, h.len.trans h.2.1.symm, h.2.2.le.2.1, h.2.2.le.2.2⟩
/-- What a call answers: a state; what was there is as it was. -/
def Ro (w : World) (st : Stk) (f : Bool) (e : Ending) (w' : World) : Prop :=
  ∃ S A n k, e = .returned (.agg #[.string ⟨S.toArray⟩, .slice A n k, .bool f]) ∧ Rs w' S A n k st ∧ Below w.heap.size w w'
theorem push_r (S : List UInt8) (A : Option Addr) (n k : Nat) (st : Stk) (c : UInt8) (at_ : Int) (f : Bool) (w : World) (h : Rs w S A n k st) (hl : st.length ≤ 1000) :
    Calls Try.prog 105 #[.agg #[.string ⟨S.toArray⟩, .slice A n k, .bool f], .string ⟨[c].toArray⟩, .int .i64 at_] w (Ro w ((c, at_) :: st) f) := by
  have hlen := h.len
  refine (push_c S [c] A n k (rP st) at_ f w (by omega) (by have := h.2.1; omega) (by simp) h.2.2).mono ?_
  rintro e w' ⟨A', k', rfl, hr, hb⟩
  exact ⟨_, _, _, _, rfl, ⟨by rw [rS_cons, h.1], by rw [h.2.1]; rfl, by rw [rP_cons]; exact hr⟩, hb⟩
theorem turn_r (S : List UInt8) (A : Option Addr) (n k : Nat) (st : Stk) (c d : UInt8) (p : Int) (f : Bool) (w : World) (h : Rs w S A n k ((d, p) :: st)) (hl : st.length ≤ 1000) :
    Calls Try.prog 80 #[.agg #[.string ⟨S.toArray⟩, .slice A n k, .bool f], .string ⟨[c].toArray⟩] w (Ro w ((c, p) :: st) f) := by
  have hlen := h.len
  refine (turn_c S [c] A st.length n k f w (by simpa using hlen) (by omega) (by simp)).mono ?_
  rintro e w' ⟨rfl, hb⟩
  refine ⟨_, _, _, _, rfl, ⟨by rw [rS_cons, h.1, rS_take _ _ _ _ rfl], h.2.1, ?_⟩, hb⟩
  have := h.2.2.next hb
  rw [rP_cons] at this ⊢
  exact this
theorem pop_r (S : List UInt8) (A : Option Addr) (n k : Nat) (st : Stk) (f : Bool) (w : World) (h : Rs w S A n k st) (hne : st ≠ []) (hl : st.length ≤ 1000) :
    Calls Try.prog 81 #[.agg #[.string ⟨S.toArray⟩, .slice A n k, .bool f]] w (Ro w st.tail f) := by
  match st, hne with
  | (c, p) :: r, _ =>
    have hlen := h.len
    obtain ⟨h1, h2, h3⟩ := h
    simp only [List.length_cons] at hlen h2 hl
    subst h2
    have hk := h3.le
    refine (pop_c S A r.length k f w hlen (by omega) hk.2.1 hk.2.2).mono ?_
    rintro e w' ⟨rfl, hb⟩
    refine ⟨_, _, _, _, rfl, ⟨by rw [h1, rS_take _ _ _ _ rfl]; rfl, rfl, ?_⟩, hb⟩
    have := (h3.next hb).take (k := r.length) (by omega)
    rw [Nat.mul_one, ← List.map_take, rP_take _ _ _ _ rfl] at this
    exact this
theorem mark_r (S : List UInt8) (A : Option Addr) (n k : Nat) (st : Stk) (f g : Bool) (w : World) (h : Rs w S A n k st) :
    Calls Try.prog 79 #[.agg #[.string ⟨S.toArray⟩, .slice A n k, .bool f], .bool g] w (Ro w st g) := by
  refine (mark_c S A n k f g w).mono ?_
  rintro e w' ⟨rfl, hb⟩
  exact ⟨_, _, _, _, rfl, h.next hb, hb⟩
/-- The end of a walk that answers a state: the struct of the result lies in memory. -/
theorem ro_fin {w W F : World} {c : Nat} {S : List UInt8} {A : Option Addr} {n k : Nat} {f f' : Bool} {st st' : Stk} (hc : w.heap.size ≤ c) (hx : Rs W S A n k st') (hb : Below w.heap.size w W) {cs cs' : Array Value} (hk : Bk W c 30 cs) (_hF : Bk F c 30 cs')
    (hg : W.grownBy F (some c)) (hs : st' = st) (hf : f' = f) : Ro w st f (.returned (.agg #[.string ⟨S.toArray⟩, .slice A n k, .bool f'])) F := by
  subst hs hf
  refine ⟨_, _, _, _, rfl, ⟨hx.1, hx.2.1, hx.2.2.keep hg (hk.row (by decide))⟩, hb.grown hg hb.size (by intro j hj; injection hj with hj; omega)⟩
theorem byte_cases (b : UInt8) : b = 92 ∨ b = 39 ∨ b = 34 ∨ b = 96 ∨ b = 36 ∨ b = 35 ∨ b = 40 ∨ b = 41 ∨ (((b.toNat : Int) == 92) = false ∧ ((b.toNat : Int) == 39) = false ∧ ((b.toNat : Int) == 34) = false ∧ ((b.toNat : Int) == 96) = false ∧ ((b.toNat : Int) == 36) = false ∧ ((b.toNat : Int) == 35) = false ∧ ((b.toNat : Int) == 40) = false ∧ ((b.toNat : Int) == 41) = false) := by
  have := byte_all (fun b => b == 92 || b == 39 || b == 34 || b == 96 || b == 36 || b == 35 || b == 40 || b == 41 || (((b.toNat : Int) == 92) == false && ((b.toNat : Int) == 39) == false && ((b.toNat : Int) == 34) == false && ((b.toNat : Int) == 96) == false && ((b.toNat : Int) == 36) == false && ((b.toNat : Int) == 35) == false && ((b.toNat : Int) == 40) == false && ((b.toNat : Int) == 41) == false)) (by decide +kernel) b
  simpa [or_assoc, and_assoc] using this
theorem byte_opens (b : UInt8) : b = 92 ∨ b = 36 ∨ b = 96 ∨ (((b.toNat : Int) == 92) = false ∧ ((b.toNat : Int) == 36) = false ∧ ((b.toNat : Int) == 96) = false ∧ opensL b = []) := by
  have := byte_all (fun b => b == 92 || b == 36 || b == 96 || (((b.toNat : Int) == 92) == false && ((b.toNat : Int) == 36) == false && ((b.toNat : Int) == 96) == false && opensL b == [])) (by decide +kernel) b
  simpa [or_assoc, and_assoc] using this
theorem opens_0 (c : UInt8) (w : World) (h : opensL c = []) :
    Calls Try.prog 106 #[.int .u8 (c.toNat : Int)] w fun e w' => e = .returned (.string ⟨#[]⟩) ∧ w = w' := by
  have := opens_c c w
  rwa [h] at this
/-- The end of a walk that answers the state that came in. -/
theorem ro_same {w F : World} {S : List UInt8} {A : Option Addr} {n k : Nat} {f f' : Bool} {st st' : Stk} (hx : Rs w S A n k st') (hb : Below w.heap.size w F) (hs : st' = st) (hf : f' = f) :
    Ro w st f (.returned (.agg #[.string ⟨S.toArray⟩, .slice A n k, .bool f'])) F := by
  subst hs hf
  exact ⟨_, _, _, _, rfl, hx.next hb, hb⟩
end Go.Proofs.Ytjkiapgboljabaa
