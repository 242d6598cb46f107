/- Plain functions of chapters 4 and 6: the classes of bytes, and the machine of modes as the program and as the reference have it. No program is in sight. -/
import Derived.WalkKit
namespace Go.Proofs.Ytjkiapgboljabaa
set_option linter.unusedVariables false
set_option linter.unusedSimpArgs false
set_option maxRecDepth 100000
theorem byte_all (p : UInt8 → Bool) (h : (List.range 256).all (fun n => p (UInt8.ofNat n)) = true) (c : UInt8) : p c = true := by
  have h1 := List.all_eq_true.1 h c.toNat (List.mem_range.2 c.toNat_lt)
  rwa [UInt8.ofNat_toNat] at h1

def clsOf (c : UInt8) : Int :=
  if c.toNat = 32 ∨ c.toNat = 9 then 1
  else if c.toNat = 10 then 2
  else if 48 ≤ c.toNat ∧ c.toNat ≤ 57 then 6
  else if (97 ≤ c.toNat ∧ c.toNat ≤ 122) ∨ (65 ≤ c.toNat ∧ c.toNat ≤ 90) ∨ c.toNat = 95 then 5
  else if c.toNat = 124 ∨ c.toNat = 38 ∨ c.toNat = 59 ∨ c.toNat = 60 ∨ c.toNat = 62 ∨ c.toNat = 40 ∨ c.toNat = 41 then 3
  else if c.toNat = 92 ∨ c.toNat = 39 ∨ c.toNat = 34 ∨ c.toNat = 96 ∨ c.toNat = 36 then 4
  else 0
def endsB (c : UInt8) : Bool := decide (clsOf c = 1 ∨ clsOf c = 2 ∨ clsOf c = 3)

/-- A mode by its letter. -/
def modeOf (c : UInt8) : Int :=
  if c.toNat = 84 then 0 else if c.toNat = 67 then 1 else if c.toNat = 80 then 2 else if c.toNat = 79 then 3 else if c.toNat = 83 then 4 else if c.toNat = 68 then 5 else if c.toNat = 66 then 6
  else if c.toNat = 86 then 7 else if c.toNat = 73 then 8 else if c.toNat = 65 then 9 else if c.toNat = 82 then 10 else if c.toNat = 69 then 11 else if c.toNat = 76 then 12 else if c.toNat = 88 then 13 else if c.toNat = 35 then 14 else 15
/-! The reference: a stack of letters and places, the last one first. -/
def inL (c : UInt8) (l : List UInt8) : Bool := l.any fun d => decide (d.toNat = c.toNat)
theorem inL_snoc (c : UInt8) (l : List UInt8) (k : Nat) (h : k < l.length) : inL c (l.take (k + 1)) = (inL c (l.take k) || decide ((l[k]'h).toNat = c.toNat)) := by
  unfold inL
  rw [List.take_succ_eq_append_getElem h, List.any_append]
  simp
theorem inL_of_take (c : UInt8) (l : List UInt8) (k : Nat) (h : inL c (l.take k) = true) : inL c l = true := by
  unfold inL at h ⊢
  rw [List.any_eq_true] at h ⊢
  obtain ⟨x, hx, hp⟩ := h
  exact ⟨x, List.mem_of_mem_take hx, hp⟩
def isMeta : List UInt8 := [124, 38, 59, 60, 62, 40, 41]
def isQuote : List UInt8 := [92, 39, 34, 96, 36]
def isLetter : List UInt8 := [65, 66, 67, 68, 69, 70, 71, 72, 73, 74, 75, 76, 77, 78, 79, 80, 81, 82, 83, 84, 85, 86, 87, 88, 89, 90, 97, 98, 99, 100, 101, 102, 103, 104, 105, 106, 107, 108, 109, 110, 111, 112, 113, 114, 115, 116, 117, 118, 119, 120, 121, 122, 95]
def isDigit : List UInt8 := [48, 49, 50, 51, 52, 53, 54, 55, 56, 57]
/-- The class by the reference's lists. -/
def clsIn (c : UInt8) : Int :=
  if c.toNat = 32 ∨ c.toNat = 9 then 1 else if c.toNat = 10 then 2 else if inL c isMeta = true then 3 else if inL c isQuote = true then 4 else if inL c isLetter = true then 5 else if inL c isDigit = true then 6 else 0
theorem clsIn_eq (c : UInt8) : clsIn c = clsOf c := by
  have h := byte_all (fun c => clsIn c == clsOf c) (by decide +kernel) c
  simpa using h
def opensL (c : UInt8) : List UInt8 := if c.toNat = 92 then [88] else if c.toNat = 36 then [76] else if c.toNat = 96 then [66] else []
theorem opensL_len (c : UInt8) : (opensL c).length ≤ 2 := by unfold opensL; repeat' split
                                                             all_goals simp
abbrev Stk := List (UInt8 × Int)
def rS (st : Stk) : List UInt8 := (st.map (·.1)).reverse
def rP (st : Stk) : List Int := (st.map (·.2)).reverse
theorem rS_len (st : Stk) : (rS st).length = st.length := by simp [rS]
theorem rP_len (st : Stk) : (rP st).length = st.length := by simp [rP]
theorem rS_cons (c : UInt8) (p : Int) (st : Stk) : rS ((c, p) :: st) = rS st ++ [c] := by simp [rS]
theorem rP_cons (c : UInt8) (p : Int) (st : Stk) : rP ((c, p) :: st) = rP st ++ [p] := by simp [rP]
theorem rS_take (c : UInt8) (p : Int) (st : Stk) (n : Nat) (h : st.length = n) : (rS ((c, p) :: st)).take n = rS st := by rw [rS_cons, ← h, ← rS_len st, List.take_left]
theorem rP_take (c : UInt8) (p : Int) (st : Stk) (n : Nat) (h : st.length = n) : (rP ((c, p) :: st)).take n = rP st := by rw [rP_cons, ← h, ← rP_len st, List.take_left]
/-- quillwortref06.program. -/
def rProgram (st : Stk) (f : Bool) (c b : UInt8) (at_ : Int) : Stk × Bool :=
  if b.toNat = 92 then ((88, at_) :: st, f)
  else if b.toNat = 39 then ((83, at_) :: st, false)
  else if b.toNat = 34 then ((68, at_) :: st, false)
  else if b.toNat = 96 then ((66, at_) :: st, false)
  else if b.toNat = 36 then ((76, at_) :: st, false)
  else if b.toNat = 35 ∧ f = true then ((35, at_) :: st, f)
  else if b.toNat = 40 then (if c.toNat = 84 then (st, true) else ((80, at_) :: st, true))
  else if b.toNat = 41 then (if c.toNat = 84 then (st, true) else (st.tail, decide (c.toNat = 80)))
  else (st, endsB b)
/-- quillwortref06.plain. -/
def rPlain (st : Stk) (f : Bool) (c b : UInt8) (at_ : Int) : Stk × Bool :=
  if c.toNat = 84 ∨ c.toNat = 67 ∨ c.toNat = 80 then rProgram st f c b at_
  else if c.toNat = 88 then (st.tail, if b.toNat = 10 then f else false)
  else if c.toNat = 83 then (if b.toNat = 39 then (st.tail, f) else (st, f))
  else if c.toNat = 35 then (if b.toNat = 10 then (st.tail, true) else (st, f))
  else if c.toNat = 66 then (if b.toNat = 96 then (st.tail, f) else if b.toNat = 92 then ((88, at_) :: st, f) else (st, f))
  else if b.toNat = 92 then ((88, at_) :: st, f)
  else if b.toNat = 36 then ((76, at_) :: st, f)
  else if b.toNat = 96 then ((66, at_) :: st, f)
  else if c.toNat = 65 ∨ c.toNat = 82 then
    (if b.toNat = 40 then ((82, at_) :: st, f) else if b.toNat = 41 ∧ c.toNat = 82 then (st.tail, f)
     else if b.toNat = 41 then (match st with | [] => [] | (_, p) :: r => (69, p) :: r, f) else (st, f))
  else if c.toNat = 68 then (if b.toNat = 34 then (st.tail, f) else (st, f))
  else if b.toNat = 34 then ((68, at_) :: st, f)
  else if b.toNat = 125 then (st.tail, f)
  else if b.toNat = 39 ∧ c.toNat = 86 then ((83, at_) :: st, f)
  else (st, f)
/-- quillwortref06.Step. -/
def rStep (st : Stk) (f : Bool) (b : UInt8) (at_ : Int) : Stk × Bool :=
  match st with
  | [] => ([], f)
  | (c, p) :: r =>
    if c.toNat = 76 then
      (if b.toNat = 40 then ((79, p) :: r, true)
       else if b.toNat = 123 then
         (match r with
          | (d, _) :: _ => if d.toNat = 68 ∨ d.toNat = 73 then ((73, p) :: r, f) else ((86, p) :: r, f)
          | [] => ((86, p) :: r, f))
       else if b.toNat = 36 then (r, f)
       else match r with
          | (d, _) :: _ => rPlain r f d b at_
          | [] => (r, f))
    else if c.toNat = 79 then
      (if b.toNat = 40 then ((65, p) :: r, false) else rPlain ((67, p) :: r) f 67 b at_)
    else if c.toNat = 69 then
      (if b.toNat = 41 then (r, f) else rPlain ((65, p) :: r) f 65 b at_)
    else rPlain st f c b at_
end Go.Proofs.Ytjkiapgboljabaa
