/- The tokens of a text tile it: the plain law. -/
import Derived.Test.YtffngggdelmkpaaGreatDoorLa9
namespace Go.Proofs.YtffngggdelmkpaaGreatDoor
set_option linter.unusedVariables false
/-- Tokens that tile a text from a place on. -/
def tileP (l : List UInt8) : List Tk → Nat → Prop
  | [], x => x = l.length
  | t :: r, x => t.fr = x ∧ x < t.to ∧ t.to ≤ l.length ∧ 1 ≤ t.kd ∧ t.kd ≤ 7 ∧ tileP l r t.to
theorem tile_lexF (l : List UInt8) : ∀ (m x : Nat) (X : Lx), x ≤ l.length → l.length < m + x → tileP l (lexF l m x X).1 x
  | 0, x, X, h1, h2 => by omega
  | m + 1, x, X, h1, h2 => by
    unfold lexF
    by_cases hx : x < l.length
    · obtain ⟨a, b, c, d, e⟩ := stepL_to l x hx X
      rw [if_pos hx]
      exact ⟨a, b, c, d, e, tile_lexF l m _ _ c (by omega)⟩
    · rw [if_neg hx]
      show x = l.length
      omega
theorem tile_lexL (l : List UInt8) : tileP l (lexL l).1 0 := tile_lexF l _ 0 lx0 (Nat.zero_le _) (by omega)
/-- What a token of the middle tells. -/
theorem tile_at {l : List UInt8} : ∀ {ts : List Tk} {x : Nat} (_ : tileP l ts x) (i : Nat) (t : Tk), ts[i]? = some t → x ≤ t.fr ∧ t.fr < t.to ∧ t.to ≤ l.length ∧ 1 ≤ t.kd ∧ t.kd ≤ 7
  | [], x, h, i, t, hi => by simp at hi
  | a :: r, x, ⟨h1, h2, h3, h4, h5, h6⟩, 0, t, hi => by
    simp at hi
    subst hi
    omega
  | a :: r, x, ⟨h1, h2, h3, h4, h5, h6⟩, i + 1, t, hi => by
    have := tile_at h6 i t (by simpa using hi)
    omega
theorem tile_drop {l : List UInt8} : ∀ {ts : List Tk} {x : Nat} (_ : tileP l ts x) (i : Nat) (t : Tk), ts[i]? = some t → tileP l (ts.drop (i + 1)) t.to
  | [], x, h, i, t, hi => by simp at hi
  | a :: r, x, ⟨h1, h2, h3, h4, h5, h6⟩, 0, t, hi => by
    simp at hi
    subst hi
    simpa using h6
  | a :: r, x, ⟨h1, h2, h3, h4, h5, h6⟩, i + 1, t, hi => by
    have := tile_drop h6 i t (by simpa using hi)
    simpa using this
theorem tile_len {l : List UInt8} : ∀ {ts : List Tk} {x : Nat} (_ : tileP l ts x), ts.length + x ≤ l.length
  | [], x, h => by have h : x = l.length := h; simp; omega
  | a :: r, x, ⟨h1, h2, h3, h4, h5, h6⟩ => by
    have := tile_len h6
    simp
    omega
theorem lexL_len (l : List UInt8) : (lexL l).1.length ≤ l.length := by have := tile_len (tile_lexL l); omega
end Go.Proofs.YtffngggdelmkpaaGreatDoor
