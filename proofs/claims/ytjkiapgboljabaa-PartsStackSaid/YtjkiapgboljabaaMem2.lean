/- More lemmas on memory. -/
import Derived.Test.YtjkiapgboljabaaMem
namespace Go.Proofs.Ytjkiapgboljabaa
open Go.RowKit
set_option linter.unusedVariables false
set_option linter.unusedSimpArgs false
set_option maxRecDepth 100000
theorem own_form' {W : World} {N e size k : Nat} {v : Value} {xs : List Value} (h : W.ownsRow N e size v k xs) : ∃ A n c, v = .slice A n c := by
  rcases h.2 with ⟨rfl, _⟩ | ⟨g, cap, cur, rfl, _⟩
  · exact ⟨_, _, _, rfl⟩
  · exact ⟨_, _, _, rfl⟩
theorem own_len {W : World} {N e size k n c : Nat} {A : Option Addr} {xs : List Value} (h : W.ownsRow N e size (.slice A n c) k xs) : n = k := by
  rcases h.2 with ⟨h0, h1⟩ | ⟨g, cap, cur, h0, _⟩
  · cases h0; omega
  · cases h0; rfl
/-! Only blocks of some types have turned. -/
def KT (T : List TypeId) (w w' : World) : Prop := ∀ (k : Nat) (o : Obj), w.heap[k]? = some o → (∀ (cs : Array Value) (t : TypeId) (fr : Nat × Nat), o = Obj.cells cs t fr → t ∉ T) → w'.heap[k]? = some o
theorem KT.refl (T : List TypeId) (w : World) : KT T w w := fun _ _ h _ => h
theorem KT.trans {T : List TypeId} {a b c : World} (h : KT T a b) (h' : KT T b c) : KT T a c := fun k o hk ho => h' k o (h k o hk ho) ho
theorem KT.drewN {T : List TypeId} {a b : World} (h : KT T a b) (n : Nat) : KT T a (b.drewN n) := h
theorem KT.drew {T : List TypeId} {a b : World} (h : KT T a b) : KT T a b.drew := h
theorem KT.of_below {T : List TypeId} {w w' : World} (h : Below w.heap.size w w') : KT T w w' := fun k o hk _ => (h.block k (Array.getElem?_eq_some_iff.1 hk).1).trans hk
theorem KT.alloc {T : List TypeId} {a b : World} (h : KT T a b) (o : Obj) : KT T a (b.alloc o) := h.trans (KT.of_below (Below.alloc (Below.refl _ _) (Nat.le_refl _) o))
theorem KT.setCell {T : List TypeId} {a b : World} (h : KT T a b) {g : Nat} {cs : Array Value} {t : TypeId} {fr : Nat × Nat} (hg : b.heap[g]? = some (.cells cs t fr)) (ht : t ∈ T) (i : Nat) (v : Value) : KT T a (b.setCell ⟨g, i, none⟩ v) := by
  intro k o hk ho
  have h1 := h k o hk ho
  by_cases e : k = g
  · subst e
    rw [hg] at h1
    cases h1
    exact absurd ht (ho _ _ _ rfl)
  · exact (Below.heap_setCell _ _ _ k e).trans h1
theorem KT.grown {T : List TypeId} {a b c : World} (h : KT T a b) {row : Option Nat} (hg : b.grownBy c row) (hr : ∀ k, row = some k → ∃ (cs : Array Value) (t : TypeId) (fr : Nat × Nat), b.heap[k]? = some (.cells cs t fr) ∧ t ∈ T) : KT T a c := by
  intro k o hk ho
  have h1 := h k o hk ho
  refine (hg.block k (Array.getElem?_eq_some_iff.1 h1).1 ?_).trans h1
  intro e
  obtain ⟨cs, t, fr, h2, ht⟩ := hr k e.symm
  rw [h1] at h2
  cases h2
  exact ho _ _ _ rfl ht
theorem own_blk {w : World} {B e sz n : Nat} {v : Value} {xs : List Value} (h : w.ownsRow B e sz v n xs) : ∀ k, v.ownBlock = some k → ∃ (cs : Array Value) (t : TypeId) (fr : Nat × Nat), w.heap[k]? = some (.cells cs t fr) ∧ t = e := by
  intro k hk
  rcases h.2 with ⟨rfl, _⟩ | ⟨g, cap, cur, rfl, _, hh, _⟩
  · simp [Value.ownBlock] at hk
  · have : g = k := by simpa [Value.ownBlock] using hk
    subst this
    exact ⟨cur, e, _, hh, rfl⟩
theorem own_heap {w : World} {B e sz n g c m : Nat} {xs : List Value} (h : w.ownsRow B e sz (.slice (some ⟨g, 0, none⟩) m c) n xs) : w.heap[g]? = some (.cells ((w.heap[g]?.bind fun o => match o with | .cells cs _ _ => some cs | _ => none).getD #[]) e (0, 0)) := by
  rcases h.2 with ⟨h0, _⟩ | ⟨g', cap, cur, hv, _, hh, _⟩
  · cases h0
  · cases hv
    rw [hh]
    rfl
theorem Bk.kt {T : List TypeId} {w w' : World} {g : Nat} {t : TypeId} {cs : Array Value} (h : Bk w g t cs) (hk : KT T w w') (ht : t ∉ T) : Bk w' g t cs := hk g _ h (by rintro _ _ _ ⟨⟩; exact ht)
theorem own_kt {T : List TypeId} {w w' : World} {B e sz n : Nat} {v : Value} {xs : List Value} (h : w.ownsRow B e sz v n xs) (hk : KT T w w') (ht : e ∉ T) : w'.ownsRow B e sz v n xs := by
  refine ⟨h.1, ?_⟩
  rcases h.2 with h2 | ⟨g, cap, cur, rfl, hg, hh, r⟩
  · exact .inl h2
  · exact .inr ⟨g, cap, cur, rfl, hg, hk g _ hh (by rintro _ _ _ ⟨⟩; exact ht), r⟩
end Go.Proofs.Ytjkiapgboljabaa
