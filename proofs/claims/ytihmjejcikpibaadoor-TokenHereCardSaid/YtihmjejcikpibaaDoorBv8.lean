/- literal.Bare: the text of all pieces. -/
import Derived.Test.YtihmjejcikpibaaDoorCo8
import Derived.Test.YtihmjejcikpibaaDoorSb8
namespace Go.Proofs.YtihmjejcikpibaaDoor
open Go.RowKit
set_option linter.unusedVariables false
set_option linter.unusedSimpArgs false
set_option maxRecDepth 100000
attribute [local go_sem] Oper.semAt_some
/-- A builder that a consumer fills, apart from the iterator's blocks. -/
structure Bb (B N b0 : Nat) (Bw : World) (t : List UInt8) (X : Nat → Prop) (W : World) : Prop where
  row : ∃ p v, (p = .pointer none ∨ p = .pointer (some ⟨b0, 0, none⟩)) ∧ Bk W b0 85 #[p, v] ∧ W.ownsRow N 5 1 v t.length (bvals t) ∧ ¬ X b0 ∧ ∀ k, v.ownBlock = some k → ¬ X k
  bl : Below B Bw W
  sz : N ≤ W.heap.size
  xb : ∀ k, X k → B ≤ k ∧ k < W.heap.size
theorem Bb.fits {α : Type} {B N b0 : Nat} {Bw : World} {t : List α → List UInt8} (hB : B ≤ N) : Fits (fun (X : Nat → Prop) (pre : List α) W => Bb B N b0 Bw (t pre) X W) := by
  rintro X s A C ⟨⟨p, v, h0, h1, h2, h3, h4⟩, h5, h6, h7⟩ hx
  refine ⟨⟨p, v, h0, (hx.block _ h1.lt h3).trans h1, ⟨h2.1, ?_⟩, ?_, ?_⟩, ⟨hx.os.trans h5.1, hx.tape.trans h5.2, hx.output.trans h5.3, Nat.le_trans h5.size hx.size, fun k hk => ?_⟩, Nat.le_trans h6 hx.size, fun k hk => ?_⟩
  · rcases h2.2 with h | ⟨g, cap, cur, he, hg, hh, r⟩
    · exact .inl h
    · exact .inr ⟨g, cap, cur, he, hg, (hx.block g (Array.getElem?_eq_some_iff.1 hh).1 (h4 g (by rw [he]; rfl))).trans hh, r⟩
  · rintro (hk | hk)
    · exact h3 hk
    · have := h1.lt; omega
  · rintro k hk (hk2 | hk2)
    · exact h4 k hk hk2
    · have := (h2.lt k hk).2; omega
  · exact (hx.block k (by have := h5.size; omega) (fun h => by have := (h7 k h).1; omega)).trans (h5.block k hk)
  · rcases hk with hk | hk
    · have := h7 k hk; have := hx.size; omega
    · have := h5.size; omega
theorem bb_own (B N b0 : Nat) (Bw : World) (t : List UInt8) (X : Nat → Prop) (M : Nat) (hB : B ≤ M) (hB2 : B ≤ Bw.heap.size) : OwnFrom M (fun (_ : Unit) W => Bb B N b0 Bw t X W) := by
  rintro s W W' row ⟨⟨p, v, h0, h1, h2, h3, h4⟩, h5, h6, h7⟩ hg hr
  refine ⟨⟨p, v, h0, h1.grown hg (fun e => ?_), h2.kept hg ?_, h3, h4⟩, h5.grown hg (Nat.le_trans hB2 h5.size) (fun k hk => Nat.le_trans hB (hr k hk).1), Nat.le_trans h6 hg.size, fun k hk => ⟨(h7 k hk).1, Nat.lt_of_lt_of_le (h7 k hk).2 hg.size⟩⟩
  · obtain ⟨_, o, ho, hc⟩ := hr _ e.symm
    rw [show W.heap[b0]? = _ from h1] at ho
    cases ho
    cases hc
  · cases hv : v.ownBlock with
    | none => exact .inl rfl
    | some k =>
      refine .inr (fun e => ?_)
      obtain ⟨_, o, ho, hc⟩ := hr k e.symm
      have := own_not_cells h2 hv ho
      rw [this] at hc
      cases hc
theorem Bb.alloc {B N b0 : Nat} {Bw : World} {t : List UInt8} {X : Nat → Prop} {W : World} (h : Bb B N b0 Bw t X W) (hBw : B ≤ Bw.heap.size) (o : Obj) : Bb B N b0 Bw t X (W.alloc o) := by
  obtain ⟨⟨p, v, h0, h1, h2, h3⟩, h5, h6, h7⟩ := h
  exact ⟨⟨p, v, h0, h1.alloc _, h2.alloc _, h3⟩, h5.alloc (Nat.le_trans hBw h5.size) _, by simp; omega, fun k hk => ⟨(h7 k hk).1, by have := (h7 k hk).2; simp; omega⟩⟩
/-- Behind a write to the builder. -/
theorem Bb.write {B N b0 n₀ M n1 : Nat} {Bw : World} {t t' : List UInt8} {X : Nat → Prop} {W W' : World} {p v v' : Value} (h1 : Bk W b0 85 #[p, v]) (h2 : W.ownsRow N 5 1 v t.length (bvals t)) (h3 : ¬ X b0) (h4 : ∀ k, v.ownBlock = some k → ¬ X k) (h5 : Below B Bw W) (h6 : N ≤ W.heap.size) (h7 : ∀ k, X k → B ≤ k ∧ k < W.heap.size)
    (hBw : B ≤ Bw.heap.size) (hb0 : B ≤ b0) (hb1 : b0 < n1) (hn : n₀ ≤ N) (hBN : B ≤ N)
    (hb : Bk W' b0 85 #[.pointer (some ⟨b0, 0, none⟩), v']) (ho : W'.ownsRow N 5 1 v' t'.length (bvals t')) (hv : v'.ownBlock = v.ownBlock ∨ v'.ownBlock = some W.heap.size) (e1 : W'.os = W.os) (e2 : W'.tape = W.tape) (e3 : W'.output = W.output) (hs : W.heap.size ≤ W'.heap.size) (hk : ∀ k, k < W.heap.size → k ≠ b0 → some k ≠ v.ownBlock → W'.heap[k]? = W.heap[k]?) :
    KeepsFrom M W W' ∧ KeepX n₀ (fun k => k < n1) W W' ∧ (∀ k, X k → W'.heap[k]? = W.heap[k]?) ∧ Bb B N b0 Bw t' X W' := by
  have hxk : ∀ k, X k → W'.heap[k]? = W.heap[k]? := fun k hX => hk k (h7 k hX).2 (fun e => h3 (e ▸ hX)) (fun e => h4 k e.symm hX)
  refine ⟨⟨hs, fun k o _ hko hc => ?_⟩, ⟨hs, fun k hkn hkx => ?_⟩, hxk, ⟨⟨_, v', .inr rfl, hb, ho, h3, fun k hkv hX => ?_⟩, ⟨e1.trans h5.1, e2.trans h5.2, e3.trans h5.3, Nat.le_trans h5.size hs, fun k hkB => ?_⟩, Nat.le_trans h6 hs, fun k hX => ⟨(h7 k hX).1, Nat.lt_of_lt_of_le (h7 k hX).2 hs⟩⟩⟩
  · have hlt := (Array.getElem?_eq_some_iff.1 hko).1
    refine (hk k hlt (fun e => ?_) (fun e => ?_)).trans hko
    · subst e
      rw [show W.heap[k]? = _ from h1] at hko
      cases hko
      cases hc
    · have := own_not_cells h2 e.symm hko
      rw [this] at hc
      cases hc
  · exact hk k (by omega) (by omega) (fun e => by have := (h2.lt k e.symm).1; omega)
  · rcases hv with e | e
    · exact h4 k (by rw [← e]; exact hkv) hX
    · rw [e] at hkv
      injection hkv with hkv
      have := (h7 k hX).2
      omega
  · exact (hk k (by have := h5.size; omega) (by omega) (fun e => by have := (h2.lt k e.symm).1; omega)).trans (h5.block k hkB)
/-- A reader, its box, behind blocks that the consumer may write. -/
theorem rdr_box2 {w' : World} {b c m : Nat} {l : List UInt8} {A : Option Addr} {n : Nat} (hr : Rdr w' w'.heap.size (fun k => k < n) b l A c m) (hn : n ≤ w'.heap.size) (W : World) (hW : W = w'.alloc (.cells #[.pointer (some ⟨b, 0, none⟩)] 88)) :
    Rdr W W.heap.size (fun k => k < n) b l A c m ∧ Bk W w'.heap.size 88 #[.pointer (some ⟨b, 0, none⟩)] ∧ (w'.heap.size < W.heap.size ∧ ¬ w'.heap.size < n) ∧ Below w'.heap.size w' W := by
  subst hW
  have hb : Below w'.heap.size w' (w'.alloc (.cells #[.pointer (some ⟨b, 0, none⟩)] 88)) := Below.alloc (Below.refl _ _) (Nat.le_refl _) _
  exact ⟨(hr.below hb (Nat.le_refl _)).weak (fun _ h => h) hb.size, Bk.new _ _ _, ⟨by simp, by omega⟩, hb⟩
theorem txp_len (l : List UInt8) (pre : List Pc) (hl : l.length ≤ 900) (h : ∀ x ∈ pre, x.tx.length ≤ 900) (hn : pre.length ≤ 2000) : (txL pre).length ≤ 2000000 := by
  have h1 := txL_len pre 900 h
  have h2 := Nat.mul_le_mul_right 900 hn
  omega
set_option maxHeartbeats 4000000 in
theorem bare_m (l : List UInt8) (w : World) (hl : l.length ≤ 900) :
    Calls Tryd.prog 39 #[.string ⟨l.toArray⟩] w fun e w' => e = .returned (.string ⟨(txL (pcsL l)).toArray⟩) ∧ Below w.heap.size w w' := by
  have hpl := pcsL_len l
  have hbw : Bk (w.alloc (.cells #[.pointer none, .slice none 0 0] 85)) w.heap.size 85 #[.pointer none, .slice none 0 0] := Bk.new _ _ _
  have hbl : Below w.heap.size w (w.alloc (.cells #[.pointer none, .slice none 0 0] 85)) := Below.alloc (Below.refl _ _) (Nat.le_refl _) _
  have H := Lib.hid (And.intro hbw hbl)
  clear hbw hbl
  refine (callsIn_wide (n := 5)).1 ?_
  refine callsIn_of_wp_marks Tryd.func39 rfl trivial ?_ rfl
  simp only [Tryd.ntmps39, List.size_toArray, List.length_cons, List.length_nil, Nat.reduceAdd, Nat.reduceSub, Array.replicate_succ, Array.replicate_zero, List.push_toArray, List.append_toArray, List.nil_append, List.cons_append]
  gi_wp2_with (first
    | (refine ⟨trivial, ?_⟩
       gi_at_call 51
       refine (callsIn_wide.2 (read_m _ l hl)).mono ?_
       rintro e w1 ⟨b, c, m, A, rfl, h1, h2⟩
       rw [World.size_alloc] at h1
       have H1 := Lib.hid (And.intro h1 h2)
       clear h1 h2)
    | (refine ⟨trivial, ?_⟩
       gi_at_call 52
       refine (callsIn_wide.2 (each_m b w1)).mono ?_
       rintro e w2 ⟨rfl, hw2⟩
       have hs1 : w.heap.size + 1 ≤ w1.heap.size := by have := H1.out.2.size; simpa using this
       have H2 := Lib.hid (rdr_box2 H1.out.1 hs1 w2 hw2)
       clear hw2))
  obtain ⟨hrd, hrb, hrn, hb2⟩ := H2.out
  have hs2 := hrn.1
  have hs3 := hrn.2
  have hbw2 : Bk w2 w.heap.size 85 #[.pointer none, .slice none 0 0] := (H.out.1.below H1.out.2 (by simp)).below hb2 (by omega)
  have hBW : Below w.heap.size w w2 := (H.out.2.trans (H1.out.2.mono (by simp))).trans (hb2.mono (by omega))
  have HT := Lib.hid (fun pre (h : pre <+: pcsL l) => txp_len l pre hl (fun x hx => Nat.le_trans (pcsL_tx l x (h.subset hx)) hl) (by have := h.length_le; omega))
  have HX := Lib.hid (pcsL_tx l)
  refine rangeFunc_x (by omega) (gf := 73) (lb := #[.pointer (some ⟨w1.heap.size, 0, none⟩)]) rfl (enters_of Tryd.func73 (by kernel_rfl) rfl)
    (each_seq w2.heap.size w1.heap.size b c m (fun k => k < w.heap.size + 1) l A hl w2 hrd hrb hrn (Nat.le_refl _)) (fun h k => h.trans k) (fun W l o o' hl h1 h2 h3 => keepX_put W l o o' hl h1 h2 h3) (Below.refl _ _) (fun _ => rfl)
    (fun X pre W => Bb w.heap.size w2.heap.size w.heap.size w (txL pre) X W ∧ (txL pre).length ≤ pre.length * 900)
    (fun _ _ _ _ => False)
    ?fits (fun _ _ _ _ _ h _ => h) ?own (fun _ _ _ _ _ _ h _ _ => h)
    ⟨⟨⟨_, _, .inl rfl, hbw2, World.ownsRow_nil _ _ _ _, fun h => h, fun _ _ h => h⟩, hBW, Nat.le_refl _, fun _ h => h.elim⟩, by simp [txL]⟩
    (fun x a' W => x.tx.length ≤ 900 ∧ ∃ bb, Bk W bb 92 (pcc x).toArray ∧ a' = { tmps := #[.string ⟨l.toArray⟩, undef, .string ⟨#[]⟩, .pointer (some ⟨w.heap.size, 0, none⟩), .pointer (some ⟨bb, 0, none⟩), .string ⟨l.toArray⟩, .pointer (some ⟨b, 0, none⟩), .func (.func 73) #[] #[.pointer (some ⟨w1.heap.size, 0, none⟩)], .agg #[.bool x.ex, .bool x.qu, .string ⟨x.tx.toArray⟩], undef, undef, undef, undef], defers := [] })
    (fun x a' => OwnFrom.and (fun _ _ _ _ h _ _ => h) (bk_own _ _ _ _)) ?assign ?body ?done ?stop
  case fits =>
    rintro X s A C ⟨h1, h2⟩ hx
    exact ⟨Bb.fits (t := txL) (by omega) X s A C h1 hx, h2⟩
  case own =>
    rintro X s W W' row ⟨h1, h2⟩ hg hr
    exact ⟨bb_own _ _ _ _ _ X _ (by omega) (Nat.le_refl _) () W W' row h1 hg hr, h2⟩
  case assign =>
    rintro l' X pre x W K ⟨hI, hI2⟩ hpx hK
    gi_wp2
    have hx9 : x.tx.length ≤ 900 := Nat.le_trans (HX.out x (hpx.subset (by simp))) hl
    exact hK _ _ (keepsFrom_below (Below.alloc (Below.refl _ _) (Nat.le_refl _) _)) (KeepX.of_below (Below.alloc (Below.refl _ _) (Nat.le_refl _) _) hI.sz) (fun k hk => Below.heap_alloc _ _ _ (hI.xb k hk).2) ⟨hI.alloc (Nat.le_refl _) _, hI2⟩ ⟨hx9, _, Bk.new _ _ _, rfl⟩
  case body =>
    rintro l' X pre x a' W hl1 hl2 ⟨⟨⟨p, v, hp, h1, h2, h3, h4⟩, h5, h6, h7⟩, ht⟩ ⟨hx9, bb, hbk, rfl⟩ hpx
    have hpn : pre.length + 1 ≤ 2000 := by have := hpx.length_le; simp at this; omega
    have hlen : (txL pre).length + x.tx.length ≤ 100000000 := by omega
    obtain ⟨x0, x1, x2, _⟩ := (show Bk W bb 92 #[.bool x.ex, .bool x.qu, .string ⟨x.tx.toArray⟩] from hbk).three
    have HW := Lib.hid (And.intro hp (And.intro h1 (And.intro h2 (And.intro h3 (And.intro h4 (And.intro h5 (And.intro h6 h7)))))))
    clear hp h1 h2 h3 h4 h5 h6 h7 hpx hbk hl2
    gi_wp2_with (
      (refine ⟨trivial, ?_⟩
       gi_at_call 53
       obtain ⟨hp, h1, h2, h3, h4, h5, h6, h7⟩ := HW.out
       refine (in_round (write_b W w2.heap.size w.heap.size p v (txL pre) x.tx hp h1 h2 h6 hlen)).mono ?_
       rintro e W' ⟨rfl, v', q1, q2, q3, q4, q5, q6, q7, q8⟩
       have H8 := Lib.hid (Bb.write (M := w2.heap.size) (n₀ := w2.heap.size) (n1 := w.heap.size + 1) h1 h2 h3 h4 h5 h6 h7 (Nat.le_refl _) (Nat.le_refl _) (by omega) (Nat.le_refl _) (by omega) q1 q2 q3 q4 q5 q6 q7 q8)
       clear q1 q2 q3 q4 q5 q6 q7 q8 hp h1 h2 h3 h4 h5 h6 h7))
    obtain ⟨q1, q2, q3, q4⟩ := H8.out
    exact ⟨q1, q2, q3, by rw [txL_snoc]; exact q4, by rw [txL_snoc, List.length_append, List.length_append]; simp only [List.length_cons, List.length_nil]; omega⟩
  case done =>
    rintro D X ys W hD rfl ⟨⟨⟨p, v, hp, h1, h2, h3, h4⟩, h5, h6, h7⟩, ht⟩ hK
    have HD := Lib.hid (And.intro h5 (And.intro h2 (And.intro hK h1)))
    clear hp h1 h2 h3 h4 h5 hK
    gi_wp2_with (
      (refine ⟨trivial, ?_⟩
       gi_at_call 54
       refine (callsIn_wide.2 (str_b W w.heap.size p v (txL (pcsL l)) w2.heap.size HD.out.2.2.2 HD.out.2.1)).mono ?_
       rintro e W3 ⟨rfl, hg⟩
       have hK3 : W3.heap[D]? = some (.deferred (some [])) := (hg.block D (Array.getElem?_eq_some_iff.1 HD.out.2.2.1).1 (fun e => by have := own_not_cells HD.out.2.1 e.symm HD.out.2.2.1; cases this)).trans HD.out.2.2.1
       have hb3 : Below w.heap.size w W3 := HD.out.1.grown hg (by have := HD.out.1.size; omega) (fun k hk => by have := (HD.out.2.1.lt k hk).1; omega)
       have hbk := belowK_b (w := w) (Nat.le_refl _) W3 D (.deferred (some [])) (.deferred none) (by omega) hK3 rfl rfl
       have H3 := Lib.hid (And.intro hb3 (And.intro hbk hK3))
       clear hg hK3 hb3 hbk))
    refine ⟨by simp, .inl ⟨_, _, rfl, run_takeDeferred H3.out.2.2, ?_⟩⟩
    exact ⟨_, by simp [results, Tryd.results39, go_sem], ⟨rfl, H3.out.1.trans H3.out.2.1⟩⟩
  case stop =>
    intro D c X pre W _ _ h _
    exact h.elim
end Go.Proofs.YtihmjejcikpibaaDoor
