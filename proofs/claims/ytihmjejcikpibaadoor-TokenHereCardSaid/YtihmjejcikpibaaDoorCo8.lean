/- each tells the pieces: its contract as a sequence; a consumer with a box. -/
import Derived.Test.YtihmjejcikpibaaDoorEa8
import Derived.Test.YtihmjejcikpibaaDoorPl8
import Derived.Test.YtihmjejcikpibaaDoorPc8
import Derived.Test.YtihmjejcikpibaaDoorKc
namespace Go.Proofs.YtihmjejcikpibaaDoor
open Go.RowKit
set_option linter.unusedVariables false
set_option linter.unusedSimpArgs false
set_option maxRecDepth 100000
attribute [local go_sem] Oper.semAt_some
theorem each_seq (n₀ rb b c m : Nat) (Xc : Nat → Prop) (l : List UInt8) (A : Option Addr) (hl : l.length ≤ 900) (w : World) (hrd : Rdr w n₀ Xc b l A c m) (hrb : Bk w rb 88 #[.pointer (some ⟨b, 0, none⟩)]) (hrn : rb < n₀ ∧ ¬ Xc rb) (hn : n₀ ≤ w.heap.size) :
    SeqX Tryd.prog 73 #[.pointer (some ⟨rb, 0, none⟩)] encP (KeepX n₀ Xc) (fun xs => xs = pcsL l) (fun pre => pre <+: pcsL l) (pcsL l) w := by
  intro n l' J Jx W hW hF _ hY hJ
  exact each1_in n l' (pcsL l) n₀ rb b c m Xc l A J Jx hF hY hl W hJ (hrd.below hW hn) (hrb.below hW hrb.lt) hrn (Nat.le_trans hn hW.size) _ rfl (List.prefix_refl _)
theorem each_m (b : Nat) (w : World) :
    Calls Tryd.prog 52 #[.pointer (some ⟨b, 0, none⟩)] w fun e w' => e = .returned (.func (.func 73) #[] #[.pointer (some ⟨w.heap.size, 0, none⟩)]) ∧ w' = w.alloc (.cells #[.pointer (some ⟨b, 0, none⟩)] 88) := by
  go_enter Tryd.func52, Tryd.ntmps52
  go_wp2
  go_ret
  exact ⟨rfl, rfl⟩
/-- A consumer's box and the row in it, apart from the iterator's blocks. -/
structure Cb (B N bx : Nat) (bt e : TypeId) (sz : Nat) (Bw : World) (n : Nat) (xs : List Value) (X : Nat → Prop) (W : World) : Prop where
  row : ∃ v, Boxed W bx bt v ∧ W.ownsRow N e sz v n xs ∧ (¬ X bx ∧ ∀ k, v.ownBlock = some k → ¬ X k)
  bl : Below B Bw W
  sz : N ≤ W.heap.size
  xb : ∀ k, X k → B ≤ k ∧ k < W.heap.size
theorem Cb.fits {α : Type} {B N bx sz : Nat} {bt e : TypeId} {Bw : World} {n : List α → Nat} {xs : List α → List Value} (hB : B ≤ N) : Fits (fun (X : Nat → Prop) (pre : List α) W => Cb B N bx bt e sz Bw (n pre) (xs pre) X W) := by
  rintro X s A C ⟨⟨v, h1, h2, h3, h4⟩, h5, h6, h7⟩ hx
  refine ⟨⟨v, ?_, ?_, ?_, ?_⟩, ⟨hx.os.trans h5.1, hx.tape.trans h5.2, hx.output.trans h5.3, Nat.le_trans h5.size hx.size, fun k hk => ?_⟩, Nat.le_trans h6 hx.size, fun k hk => ?_⟩
  · exact (hx.block _ h1.lt h3).trans h1
  · refine ⟨h2.1, ?_⟩
    rcases h2.2 with h | ⟨g, cap, cur, he, hg, hh, r⟩
    · exact .inl h
    · exact .inr ⟨g, cap, cur, he, hg, (hx.block g (Array.getElem?_eq_some_iff.1 hh).1 (h4 g (by rw [he]; rfl))).trans hh, r⟩
  · rintro (hk | hk)
    · exact h3 hk
    · have := h1.lt; omega
  · rintro k hk (hk2 | hk2)
    · exact h4 k hk hk2
    · have := (h2.lt k hk).2; omega
  · exact (hx.block k (by have := h5.size; omega) (fun h => by have := (h7 k h).1; omega)).trans (h5.block k hk)
  · rcases hk with hk | hk
    · have := h7 k hk; have := hx.size; omega
    · have := h5.size; omega
theorem cb_own (N bx sz : Nat) (bt e : TypeId) (n : Nat) (xs : List Value) (B M : Nat) (Bw : World) (X : Nat → Prop) (hB : B ≤ M) (hB2 : B ≤ Bw.heap.size) : OwnFrom M (fun (_ : Unit) W => Cb B N bx bt e sz Bw n xs X W) := by
  have h1 := OwnFrom.and (Own.from (holdsRow_own N bx bt e sz (fun _ : Unit => n) (fun _ => xs) (fun _ v => ¬ X bx ∧ ∀ k, v.ownBlock = some k → ¬ X k)) M) (OwnFrom.and (ownFrom_below (β := Unit) (w₀ := Bw) (n₀ := B) hB2 hB) (ownFrom_size (β := Unit) N M))
  rintro s W W' row ⟨a, b, c, d⟩ hg hr
  obtain ⟨a2, b2, c2⟩ := h1 s W W' row ⟨a, b, c⟩ hg hr
  exact ⟨a2, b2, c2, fun k hk => ⟨(d k hk).1, Nat.lt_of_lt_of_le (d k hk).2 hg.size⟩⟩
theorem Cb.alloc {B N bx sz : Nat} {bt e : TypeId} {Bw : World} {n : Nat} {xs : List Value} {X : Nat → Prop} {W : World} (h : Cb B N bx bt e sz Bw n xs X W) (hBw : B ≤ Bw.heap.size) (o : Obj) : Cb B N bx bt e sz Bw n xs X (W.alloc o) := by
  obtain ⟨⟨v, h1, h2, h3⟩, h5, h6, h7⟩ := h
  exact ⟨⟨v, h1.alloc _, h2.alloc _, h3⟩, h5.alloc (Nat.le_trans hBw h5.size) _, by simp; omega, fun k hk => ⟨(h7 k hk).1, by have := (h7 k hk).2; simp; omega⟩⟩
theorem Cb.app {B N bx sz M n₀ : Nat} {bt e : TypeId} {Bw : World} {n n' : Nat} {xs xs' : List Value} {X Xc : Nat → Prop} {W W1 w1 : World} {v v' : Value} (hv : Boxed W bx bt v) (hrow : W.ownsRow N e sz v n xs) (hnx : ¬ X bx ∧ ∀ k, v.ownBlock = some k → ¬ X k) (hbl : Below B Bw W) (hsz : N ≤ W.heap.size) (hxb : ∀ k, X k → B ≤ k ∧ k < W.heap.size)
    (hbt : bt ≠ e) (hbx : B ≤ bx) (hbN : bx < N) (hn : n₀ ≤ B) (hBw : B ≤ Bw.heap.size) (hW : Below W.heap.size W W1) (hg : W1.grownBy w1 v.ownBlock) (hown : w1.ownsRow N e sz v' n' xs') (hv' : v'.ownBlock = v.ownBlock ∨ v'.ownBlock = some W1.heap.size) :
    KeepsFrom M W (w1.setCell ⟨bx, 0, none⟩ v') ∧ KeepX n₀ Xc W (w1.setCell ⟨bx, 0, none⟩ v') ∧ (∀ k, X k → (w1.setCell ⟨bx, 0, none⟩ v').heap[k]? = W.heap[k]?) ∧ Cb B N bx bt e sz Bw n' xs' X (w1.setCell ⟨bx, 0, none⟩ v') := by
  obtain ⟨q1, q2, q3, q4, q5, q6⟩ := box_append (M := M) hv hbt hrow hsz hbN hW hg hown
  refine ⟨q1, KeepX.of_below (q5 B hbx) hn, fun k hk => ?_, ⟨⟨v', q3, q4, hnx.1, fun k hk hX => ?_⟩, hbl.trans (q5 B hbx), q6, fun k hk => ⟨(hxb k hk).1, Nat.lt_of_lt_of_le (hxb k hk).2 q1.size⟩⟩⟩
  · have hlt := (hxb k hk).2
    refine (Below.heap_setCell _ _ _ k (fun e => hnx.1 (by have e' : k = bx := e; rw [← e']; exact hk))).trans ?_
    exact (hg.block k (by have := hW.size; omega) (fun e => hnx.2 k e.symm hk)).trans (hW.block k hlt)
  · rcases hv' with e | e
    · exact hnx.2 k (by rw [← e]; exact hk) hX
    · rw [e] at hk
      injection hk with hk
      have := (hxb k hX).2
      have := hW.size
      omega
/-- A reader, and the box that its iterator holds. -/
theorem rdr_box {w' : World} {b c m : Nat} {l : List UInt8} {A : Option Addr} {n : Nat} (hr : Rdr w' w'.heap.size (fun k => k < n) b l A c m) (W : World) (hW : W = w'.alloc (.cells #[.pointer (some ⟨b, 0, none⟩)] 88)) :
    Rdr W W.heap.size (fun _ => False) b l A c m ∧ Bk W w'.heap.size 88 #[.pointer (some ⟨b, 0, none⟩)] ∧ w'.heap.size < W.heap.size ∧ Below w'.heap.size w' W := by
  subst hW
  have hb : Below w'.heap.size w' (w'.alloc (.cells #[.pointer (some ⟨b, 0, none⟩)] 88)) := Below.alloc (Below.refl _ _) (Nat.le_refl _) _
  exact ⟨(hr.below hb (Nat.le_refl _)).weak (fun _ h => h.elim) hb.size, Bk.new _ _ _, by simp, hb⟩
end Go.Proofs.YtihmjejcikpibaaDoor
