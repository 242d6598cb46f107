/- literal.Pieces: all pieces of a text, collected. -/
import Derived.Test.YtjkiapgboljabaaEa8
import Derived.Test.YtjkiapgboljabaaPl8
import Derived.Test.YtjkiapgboljabaaRg8
import Derived.Test.YtjkiapgboljabaaRw
namespace Go.Proofs.Ytjkiapgboljabaa
open Go.RowKit
set_option linter.unusedVariables false
set_option linter.unusedSimpArgs false
set_option maxRecDepth 100000
attribute [local go_sem] Oper.semAt_some
theorem each_seq (n₀ rb b c m : Nat) (Xc : Nat → Prop) (l : List UInt8) (A : Option Addr) (hl : l.length ≤ 900) (w : World) (hrd : Rdr w n₀ Xc b l A c m) (hrb : Bk w rb 85 #[.pointer (some ⟨b, 0, none⟩)]) (hrn : rb < n₀ ∧ ¬ Xc rb) (hn : n₀ ≤ w.heap.size) :
    SeqX Try.prog 87 #[.pointer (some ⟨rb, 0, none⟩)] encP (KeepX n₀ Xc) (fun xs => xs = pcsL l) (fun pre => pre <+: pcsL l) (pcsL l) w := by
  intro n l' J Jx W hW hF _ hY hJ
  exact each1_in n l' (pcsL l) n₀ rb b c m Xc l A J Jx hF hY hl W hJ (hrd.below hW hn) (hrb.below hW hrb.lt) hrn (Nat.le_trans hn hW.size) _ rfl (List.prefix_refl _)
theorem each_m (b : Nat) (w : World) :
    Calls Try.prog 62 #[.pointer (some ⟨b, 0, none⟩)] w fun e w' => e = .returned (.func (.func 87) #[] #[.pointer (some ⟨w.heap.size, 0, none⟩)]) ∧ w' = w.alloc (.cells #[.pointer (some ⟨b, 0, none⟩)] 85) := by
  go_enter Try.func62, Try.ntmps62
  go_wp2
  go_ret
  exact ⟨rfl, rfl⟩
/-- A consumer's box and the row in it, apart from the iterator's blocks. -/
structure Cb (B N bx : Nat) (bt e : TypeId) (sz : Nat) (Bw : World) (n : Nat) (xs : List Value) (X : Nat → Prop) (W : World) : Prop where
  row : ∃ v, Boxed W bx bt v ∧ W.ownsRow N e sz v n xs ∧ (¬ X bx ∧ ∀ k, v.ownBlock = some k → ¬ X k)
  bl : Below B Bw W
  sz : N ≤ W.heap.size
  xb : ∀ k, X k → B ≤ k ∧ k < W.heap.size
theorem Cb.fits {α : Type} {B N bx sz : Nat} {bt e : TypeId} {Bw : World} {n : List α → Nat} {xs : List α → List Value} (hB : B ≤ N) : Fits (fun (X : Nat → Prop) (pre : List α) W => Cb B N bx bt e sz Bw (n pre) (xs pre) X W) := by
  rintro X s A C ⟨⟨v, h1, h2, h3, h4⟩, h5, h6, h7⟩ hx
  refine ⟨⟨v, ?_, ?_, ?_, ?_⟩, ⟨hx.os.trans h5.1, hx.tape.trans h5.2, hx.output.trans h5.3, Nat.le_trans h5.size hx.size, fun k hk => ?_⟩, Nat.le_trans h6 hx.size, fun k hk => ?_⟩
  · exact (hx.block _ h1.lt h3).trans h1
  · refine ⟨h2.1, ?_⟩
    rcases h2.2 with h | ⟨g, cap, cur, he, hg, hh, r⟩
    · exact .inl h
    · exact .inr ⟨g, cap, cur, he, hg, (hx.block g (Array.getElem?_eq_some_iff.1 hh).1 (h4 g (by rw [he]; rfl))).trans hh, r⟩
  · rintro (hk | hk)
    · exact h3 hk
    · have := h1.lt; omega
  · rintro k hk (hk2 | hk2)
    · exact h4 k hk hk2
    · have := (h2.lt k hk).2; omega
  · exact (hx.block k (by have := h5.size; omega) (fun h => by have := (h7 k h).1; omega)).trans (h5.block k hk)
  · rcases hk with hk | hk
    · have := h7 k hk; have := hx.size; omega
    · have := h5.size; omega
theorem cb_own (N bx sz : Nat) (bt e : TypeId) (n : Nat) (xs : List Value) (B M : Nat) (Bw : World) (X : Nat → Prop) (hB : B ≤ M) (hB2 : B ≤ Bw.heap.size) : OwnFrom M (fun (_ : Unit) W => Cb B N bx bt e sz Bw n xs X W) := by
  have h1 := OwnFrom.and (Own.from (holdsRow_own N bx bt e sz (fun _ : Unit => n) (fun _ => xs) (fun _ v => ¬ X bx ∧ ∀ k, v.ownBlock = some k → ¬ X k)) M) (OwnFrom.and (ownFrom_below (β := Unit) (w₀ := Bw) (n₀ := B) hB2 hB) (ownFrom_size (β := Unit) N M))
  rintro s W W' row ⟨a, b, c, d⟩ hg hr
  obtain ⟨a2, b2, c2⟩ := h1 s W W' row ⟨a, b, c⟩ hg hr
  exact ⟨a2, b2, c2, fun k hk => ⟨(d k hk).1, Nat.lt_of_lt_of_le (d k hk).2 hg.size⟩⟩
theorem Cb.alloc {B N bx sz : Nat} {bt e : TypeId} {Bw : World} {n : Nat} {xs : List Value} {X : Nat → Prop} {W : World} (h : Cb B N bx bt e sz Bw n xs X W) (hBw : B ≤ Bw.heap.size) (o : Obj) : Cb B N bx bt e sz Bw n xs X (W.alloc o) := by
  obtain ⟨⟨v, h1, h2, h3⟩, h5, h6, h7⟩ := h
  exact ⟨⟨v, h1.alloc _, h2.alloc _, h3⟩, h5.alloc (Nat.le_trans hBw h5.size) _, by simp; omega, fun k hk => ⟨(h7 k hk).1, by have := (h7 k hk).2; simp; omega⟩⟩
theorem Cb.app {B N bx sz M n₀ : Nat} {bt e : TypeId} {Bw : World} {n n' : Nat} {xs xs' : List Value} {X Xc : Nat → Prop} {W W1 w1 : World} {v v' : Value} (hv : Boxed W bx bt v) (hrow : W.ownsRow N e sz v n xs) (hnx : ¬ X bx ∧ ∀ k, v.ownBlock = some k → ¬ X k) (hbl : Below B Bw W) (hsz : N ≤ W.heap.size) (hxb : ∀ k, X k → B ≤ k ∧ k < W.heap.size)
    (hbt : bt ≠ e) (hbx : B ≤ bx) (hbN : bx < N) (hn : n₀ ≤ B) (hBw : B ≤ Bw.heap.size) (hW : Below W.heap.size W W1) (hg : W1.grownBy w1 v.ownBlock) (hown : w1.ownsRow N e sz v' n' xs') (hv' : v'.ownBlock = v.ownBlock ∨ v'.ownBlock = some W1.heap.size) :
    KeepsFrom M W (w1.setCell ⟨bx, 0, none⟩ v') ∧ KeepX n₀ Xc W (w1.setCell ⟨bx, 0, none⟩ v') ∧ (∀ k, X k → (w1.setCell ⟨bx, 0, none⟩ v').heap[k]? = W.heap[k]?) ∧ Cb B N bx bt e sz Bw n' xs' X (w1.setCell ⟨bx, 0, none⟩ v') := by
  obtain ⟨q1, q2, q3, q4, q5, q6⟩ := box_append (M := M) hv hbt hrow hsz hbN hW hg hown
  refine ⟨q1, KeepX.of_below (q5 B hbx) hn, fun k hk => ?_, ⟨⟨v', q3, q4, hnx.1, fun k hk hX => ?_⟩, hbl.trans (q5 B hbx), q6, fun k hk => ⟨(hxb k hk).1, Nat.lt_of_lt_of_le (hxb k hk).2 q1.size⟩⟩⟩
  · have hlt := (hxb k hk).2
    refine (Below.heap_setCell _ _ _ k (fun e => hnx.1 (by have e' : k = bx := e; rw [← e']; exact hk))).trans ?_
    exact (hg.block k (by have := hW.size; omega) (fun e => hnx.2 k e.symm hk)).trans (hW.block k hlt)
  · rcases hv' with e | e
    · exact hnx.2 k (by rw [← e]; exact hk) hX
    · rw [e] at hk
      injection hk with hk
      have := (hxb k hX).2
      have := hW.size
      omega
set_option maxHeartbeats 4000000 in
theorem appendSeq_m (n₀ rb b c m : Nat) (l : List UInt8) (A : Option Addr) (hl : l.length ≤ 900) (w : World) (hrd : Rdr w n₀ (fun _ => False) b l A c m) (hrb : Bk w rb 85 #[.pointer (some ⟨b, 0, none⟩)]) (hrn : rb < n₀) (hn : n₀ ≤ w.heap.size) :
    Calls Try.prog 94 #[.slice none 0 0, .func (.func 87) #[] #[.pointer (some ⟨rb, 0, none⟩)]] w fun e w' => ∃ v, e = .returned v ∧ w'.ownsRow w.heap.size 56 3 v (pcsL l).length (pccs (pcsL l)) ∧ Below w.heap.size w w' := by
  obtain ⟨i0, hi, hz0, hz1, hz2⟩ := info_parts Try.infoPiece
  have hpl := pcsL_len l
  refine (callsIn_wide (n := 5)).1 ?_
  refine callsIn_of_wp_marks Try.func94 rfl trivial ?_ rfl
  simp only [Try.ntmps94, List.size_toArray, List.length_cons, List.length_nil, Nat.reduceAdd, Nat.reduceSub, Array.replicate_succ, Array.replicate_zero, List.push_toArray, List.append_toArray, List.nil_append, List.cons_append]
  gi_wp2_with fail
  obtain ⟨W0, hW0⟩ : ∃ W0, w.alloc (.cells #[.slice none 0 0] 53) = W0 := ⟨_, rfl⟩
  have bO : Boxed W0 w.heap.size 53 (.slice none 0 0) := by rw [← hW0]; exact Boxed.new w _ _
  have hs0 : W0.heap.size = w.heap.size + 1 := by rw [← hW0]; simp
  have hb0 : Below w.heap.size w W0 := by rw [← hW0]; exact (Below.refl _ w).alloc (Nat.le_refl _) _
  rw [hW0]
  clear hW0
  refine rangeFunc_x (by omega) (gf := 87) (lb := #[.pointer (some ⟨rb, 0, none⟩)]) rfl (enters_of Try.func87 (by kernel_rfl) rfl)
    (each_seq n₀ rb b c m (fun _ => False) l A hl W0 (hrd.below hb0 hn) (hrb.below hb0 hrb.lt) ⟨hrn, fun h => h⟩ (by omega)) (fun h k => h.trans k) (fun W l o o' hl h1 h2 h3 => keepX_put W l o o' (by omega) h1 h2 h3) (Below.refl _ _) (fun _ => rfl)
    (fun X pre W => Cb w.heap.size W0.heap.size w.heap.size 53 56 3 w pre.length (pccs pre) X W)
    (fun _ _ _ _ => False)
    (Cb.fits (n := fun pre : List Pc => pre.length) (xs := fun pre => pccs pre) (by omega)) (fun _ _ _ _ _ h _ => h) (fun X s => cb_own _ _ _ _ _ _ _ _ _ _ X (by omega) (Nat.le_refl _) ()) (fun _ _ _ _ _ _ h _ _ => h)
    ⟨⟨_, bO, World.ownsRow_nil _ _ _ _, fun h => h, fun _ _ h => h⟩, hb0, Nat.le_refl _, fun _ h => h.elim⟩
    (fun x a' W => ∃ b, Bk W b 56 (pcc x).toArray ∧ a' = { tmps := #[.slice none 0 0, .func (.func 87) #[] #[.pointer (some ⟨rb, 0, none⟩)], .pointer (some ⟨w.heap.size, 0, none⟩), undef, .slice none 0 0, .pointer (some ⟨b, 0, none⟩), .func (.func 87) #[] #[.pointer (some ⟨rb, 0, none⟩)], .agg #[.bool x.ex, .bool x.qu, .string ⟨x.tx.toArray⟩], undef, undef, undef, undef, undef], defers := [] })
    (fun x a' => bk_own _ _ _ _) ?assign ?body ?done ?stop
  case assign =>
    intro l' X pre x W K hI _ hK
    gi_wp2
    exact hK _ _ (keepsFrom_below (Below.alloc (Below.refl _ _) (Nat.le_refl _) _)) (KeepX.of_below (Below.alloc (Below.refl _ _) (Nat.le_refl _) _) (by have := hI.bl.size; omega)) (fun k hk => Below.heap_alloc _ _ _ (hI.xb k hk).2) (hI.alloc (Nat.le_refl _) _) ⟨_, Bk.new _ _ _, rfl⟩
  case body =>
    rintro l' X pre x a' W hl1 hl2 ⟨⟨v, hv, hrow, hnx⟩, hB, hS, hxb⟩ ⟨bb, hbk, rfl⟩ hlt
    have hc := hv.cell
    have hf := hv.frozen
    obtain ⟨x0, x1, x2, _⟩ := (show Bk W bb 56 #[.bool x.ex, .bool x.qu, .string ⟨x.tx.toArray⟩] from hbk).three
    have hpl0 : pre.length ≤ 2000 := by have := hlt.length_le; simp at this; omega
    clear hlt
    have hwn : w.heap.size ≤ W0.heap.size := by omega
    gi_wp2_with (
      (gi_at_builtin
       refine wpListIn_append_rd _ rfl (.tmp 8) (.tmp 10) 53 rfl W0.heap.size 56 i0 _ 3 24 Try.underlying53 hi hz0 hz1 hz2 rfl (by decide) v pre.length (pccs pre) rfl (hrow.alloc _) (.slice (some ⟨W.heap.size, 0, none⟩) 1 1) 1 (W.heap.size + 1) (pccs [x]) rfl (rd_new W (pccs [x]) 56 3 1 rfl (by omega)) (one_pcs _) (by unfold maxLen; omega) (by omega) (by simp; omega) ?_
       intro v3 w3 hown3 hg3 hv3
       have hW1 : Below W.heap.size W (W.alloc (.cells (pccs [x]).toArray 56)) := Below.alloc (Below.refl _ _) (Nat.le_refl _) _
       have hb3 := box_grown hv (by decide) hrow hW1 hg3
       have hc3 := hb3.cell
       have hf3 := hb3.frozen
       obtain ⟨A3, n3, c3, rfl⟩ := own_form' hown3
       have H3 := Lib.hid (Cb.app (M := W0.heap.size) (n₀ := n₀) (Xc := fun _ => False) hv hrow hnx hB hS hxb (by decide) (Nat.le_refl _) (by omega) hn (Nat.le_refl _) hW1 hg3 hown3 hv3)
       clear hown3 hg3 hv3 hW1 hb3))
    obtain ⟨q1, q2, q3, q4⟩ := H3.out
    exact ⟨q1, q2, q3, by simp only [pccs_app, List.length_append]; exact q4⟩
  case done =>
    rintro D X ys W hD rfl ⟨⟨v, hv, hrow, hnx⟩, hB, hS, hxb⟩ hK
    have hc := hv.cell
    have hbk := belowK_b (w := w) (Nat.le_refl _) W D (.deferred (some [])) (.deferred none) (by omega) hK rfl rfl
    have hrow3 := hrow.kept (grownBy_putObj' W D (.deferred none)) (.inr (fun e => by have := own_not_cells hrow e hK; cases this))
    have HD := Lib.hid (And.intro hB (And.intro hbk hrow3))
    have HK2 := Lib.hid hK
    clear hB hbk hrow hrow3 hv hK
    gi_wp2
    refine ⟨by simp, .inl ⟨_, _, rfl, run_takeDeferred HK2.out, ?_⟩⟩
    exact ⟨v, by simp [results, Try.results94, go_sem], ⟨_, rfl, own_base HD.out.2.2 (by omega), HD.out.1.trans HD.out.2.1⟩⟩
  case stop =>
    intro D c X pre W _ _ h _
    exact h.elim
theorem collect_m (n₀ rb b c m : Nat) (l : List UInt8) (A : Option Addr) (hl : l.length ≤ 900) (w : World) (hrd : Rdr w n₀ (fun _ => False) b l A c m) (hrb : Bk w rb 85 #[.pointer (some ⟨b, 0, none⟩)]) (hrn : rb < n₀) (hn : n₀ ≤ w.heap.size) :
    Calls Try.prog 66 #[.func (.func 87) #[] #[.pointer (some ⟨rb, 0, none⟩)]] w fun e w' => ∃ v, e = .returned v ∧ w'.ownsRow w.heap.size 56 3 v (pcsL l).length (pccs (pcsL l)) ∧ Below w.heap.size w w' := by
  have H := Lib.hid (And.intro hrd (And.intro hrb (And.intro hrn hn)))
  clear hrd hrb hrn hn
  go_enter Try.func66, Try.ntmps66
  go_wp2_with (
    (go_at_call 94
     refine (appendSeq_m n₀ rb b c m l A hl w H.out.1 H.out.2.1 H.out.2.2.1 H.out.2.2.2).mono ?_
     rintro e w2 ⟨v, rfl, h1, h2⟩
     have H2 := Lib.hid (And.intro h1 h2)
     clear h1 h2))
  go_ret
  exact ⟨v, rfl, H2.out.1, H2.out.2⟩
/-- A reader, and the box that its iterator holds. -/
theorem rdr_box {w' : World} {b c m : Nat} {l : List UInt8} {A : Option Addr} {n : Nat} (hr : Rdr w' w'.heap.size (fun k => k < n) b l A c m) (W : World) (hW : W = w'.alloc (.cells #[.pointer (some ⟨b, 0, none⟩)] 85)) :
    Rdr W W.heap.size (fun _ => False) b l A c m ∧ Bk W w'.heap.size 85 #[.pointer (some ⟨b, 0, none⟩)] ∧ w'.heap.size < W.heap.size ∧ Below w'.heap.size w' W := by
  subst hW
  have hb : Below w'.heap.size w' (w'.alloc (.cells #[.pointer (some ⟨b, 0, none⟩)] 85)) := Below.alloc (Below.refl _ _) (Nat.le_refl _) _
  exact ⟨(hr.below hb (Nat.le_refl _)).weak (fun _ h => h.elim) hb.size, Bk.new _ _ _, by simp, hb⟩
theorem pieces_m (l : List UInt8) (w : World) (hl : l.length ≤ 900) :
    Calls Try.prog 36 #[.string ⟨l.toArray⟩] w fun e w' => ∃ v, e = .returned v ∧ w'.ownsRow w.heap.size 56 3 v (pcsL l).length (pccs (pcsL l)) ∧ Below w.heap.size w w' := by
  go_enter Try.func36, Try.ntmps36
  go_wp2_with (first
    | (go_at_call 61
       refine (read_m w l hl).mono ?_
       rintro e w1 ⟨b, c, m, A, rfl, h1, h2⟩
       have H1 := Lib.hid (And.intro h1 h2)
       clear h1 h2)
    | (go_at_call 62
       refine (each_m b w1).mono ?_
       rintro e w2 ⟨rfl, hw2⟩
       obtain ⟨h3, h4, h5, h6⟩ := rdr_box H1.out.1 w2 hw2
       have H2 := Lib.hid (And.intro h3 (And.intro h4 (And.intro h5 h6)))
       clear h3 h4 h5 h6 hw2)
    | (go_at_call 66
       refine (collect_m w2.heap.size w1.heap.size b c m l A hl w2 H2.out.1 H2.out.2.1 H2.out.2.2.1 (Nat.le_refl _)).mono ?_
       rintro e w3 ⟨v, rfl, h1, h2⟩
       have H3 := Lib.hid (And.intro h1 h2)
       clear h1 h2))
  go_ret
  have hs := H1.out.2.size
  have h2 := H1.out.2.trans (H2.out.2.2.2.mono hs)
  exact ⟨v, rfl, own_base H3.out.1 h2.size, h2.trans (H3.out.2.mono h2.size)⟩
end Go.Proofs.Ytjkiapgboljabaa
