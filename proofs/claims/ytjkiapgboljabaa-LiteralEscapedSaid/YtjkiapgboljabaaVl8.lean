/- literal.Value: the text of all pieces, where none is to be expanded. -/
import Derived.Test.YtjkiapgboljabaaBv8
namespace Go.Proofs.Ytjkiapgboljabaa
open Go.RowKit
set_option linter.unusedVariables false
set_option linter.unusedSimpArgs false
set_option maxRecDepth 100000
attribute [local go_sem] Oper.semAt_some
/-- The two boxes of results, as they were made, apart from the iterator's blocks. -/
structure Rs8 (r : Nat) (X : Nat → Prop) (W : World) : Prop where
  s : Bk W r 9 #[.string ⟨#[]⟩]
  o : Bk W (r + 1) 4 #[.bool false]
  xs : ¬ X r
  xo : ¬ X (r + 1)
theorem Rs8.fits {r : Nat} {X : Nat → Prop} {A C : World} (h : Rs8 r X A) (hx : XG X A C) : Rs8 r (xNew X A C) C := by
  refine ⟨(hx.block _ h.s.lt h.xs).trans h.s, (hx.block _ h.o.lt h.xo).trans h.o, ?_, ?_⟩
  · rintro (hk | hk)
    · exact h.xs hk
    · have := h.s.lt; omega
  · rintro (hk | hk)
    · exact h.xo hk
    · have := h.o.lt; omega
theorem bk_grown_obj {W W' : World} {row : Option Nat} {M g : Nat} {t : TypeId} {cs : Array Value} (h : Bk W g t cs) (hg : W.grownBy W' row) (hr : ∀ r, row = some r → M ≤ r ∧ ∃ o : Obj, W.heap[r]? = some o ∧ o.isCells = false) : Bk W' g t cs := by
  refine h.grown hg (fun e => ?_)
  obtain ⟨_, o, ho, hc⟩ := hr _ e.symm
  rw [show W.heap[g]? = _ from h] at ho
  cases ho
  cases hc
theorem Rs8.own {r M : Nat} {X : Nat → Prop} : OwnFrom M (fun (_ : Unit) W => Rs8 r X W) := fun s W W' row h hg hr => ⟨bk_grown_obj h.s hg hr, bk_grown_obj h.o hg hr, h.xs, h.xo⟩
theorem Rs8.same {r : Nat} {X : Nat → Prop} {W W' : World} (h : Rs8 r X W) (h0 : W'.heap[r]? = W.heap[r]?) (h1 : W'.heap[r + 1]? = W.heap[r + 1]?) : Rs8 r X W' := ⟨h0.trans h.s, h1.trans h.o, h.xs, h.xo⟩
/-- What is left behind a return from within the loop. -/
structure Rx8 (B : Nat) (Bw : World) (r : Nat) (pre : List Pc) (X : Nat → Prop) (W : World) : Prop where
  rs : Rs8 r X W
  bl : Below B Bw W
  xb : ∀ k, X k → B ≤ k ∧ k < W.heap.size
  ex : pre.any (·.ex) = true
theorem Rx8.fits {B r : Nat} {Bw : World} {pre : List Pc} {X : Nat → Prop} {A C : World} (hB : B ≤ Bw.heap.size) (h : Rx8 B Bw r pre X A) (hx : XG X A C) : Rx8 B Bw r pre (xNew X A C) C := by
  obtain ⟨h1, h5, h7, h8⟩ := h
  refine ⟨h1.fits hx, ⟨hx.os.trans h5.1, hx.tape.trans h5.2, hx.output.trans h5.3, Nat.le_trans h5.size hx.size, fun k hk => ?_⟩, fun k hk => ?_, h8⟩
  · exact (hx.block k (by have := h5.size; omega) (fun h => by have := (h7 k h).1; omega)).trans (h5.block k hk)
  · rcases hk with hk | hk
    · have := h7 k hk; have := hx.size; omega
    · have := h5.size; omega
theorem Rx8.own {B r M : Nat} {Bw : World} {pre : List Pc} {X : Nat → Prop} (hB : B ≤ M) (hB2 : B ≤ Bw.heap.size) : OwnFrom M (fun (_ : Unit) W => Rx8 B Bw r pre X W) := fun s W W' row h hg hr =>
  ⟨Rs8.own () W W' row h.rs hg hr, h.bl.grown hg (Nat.le_trans hB2 h.bl.size) (fun k hk => Nat.le_trans hB (hr k hk).1), fun k hk => ⟨(h.xb k hk).1, Nat.lt_of_lt_of_le (h.xb k hk).2 hg.size⟩, h.ex⟩
theorem Rs8.reset {r B M n₀ n1 : Nat} {X : Nat → Prop} {W : World} (h : Rs8 r X W) (hB : B ≤ r) (hn : r + 1 < n1) (hr : r + 1 < W.heap.size) :
    Rs8 r X ((W.setCell ⟨r, 0, none⟩ (.string ⟨#[]⟩)).setCell ⟨r + 1, 0, none⟩ (.bool false)) ∧ KeepsFrom M W ((W.setCell ⟨r, 0, none⟩ (.string ⟨#[]⟩)).setCell ⟨r + 1, 0, none⟩ (.bool false)) ∧ KeepX n₀ (fun k => k < n1) W ((W.setCell ⟨r, 0, none⟩ (.string ⟨#[]⟩)).setCell ⟨r + 1, 0, none⟩ (.bool false)) ∧
      (∀ k, X k → ((W.setCell ⟨r, 0, none⟩ (.string ⟨#[]⟩)).setCell ⟨r + 1, 0, none⟩ (.bool false)).heap[k]? = W.heap[k]?) ∧ Below B W ((W.setCell ⟨r, 0, none⟩ (.string ⟨#[]⟩)).setCell ⟨r + 1, 0, none⟩ (.bool false)) := by
  have hs : ∀ k, k ≠ r → k ≠ r + 1 → ((W.setCell ⟨r, 0, none⟩ (.string ⟨#[]⟩)).setCell ⟨r + 1, 0, none⟩ (.bool false)).heap[k]? = W.heap[k]? := fun k h0 h1 => (Below.heap_setCell _ _ _ k h1).trans (Below.heap_setCell _ _ _ k h0)
  have hz : ((W.setCell ⟨r, 0, none⟩ (.string ⟨#[]⟩)).setCell ⟨r + 1, 0, none⟩ (.bool false)).heap.size = W.heap.size := by simp [World.setCell]
  refine ⟨⟨?_, ?_, h.xs, h.xo⟩, ⟨by omega, fun k o _ hko hc => ?_⟩, ⟨by omega, fun k hk hx => hs k (by omega) (by omega)⟩, fun k hk => hs k (fun e => h.xs (e ▸ hk)) (fun e => h.xo (e ▸ hk)), ((Below.refl B W).setCell (p := ⟨r, 0, none⟩) hB _).setCell (p := ⟨r + 1, 0, none⟩) (by show B ≤ r + 1; omega) _⟩
  · have := (h.s.set 0 (.string ⟨#[]⟩)).far (p := ⟨r + 1, 0, none⟩) (by show r ≠ r + 1; omega) (.bool false)
    simpa using this
  · have := (h.o.far (p := ⟨r, 0, none⟩) (by show r + 1 ≠ r; omega) (.string ⟨#[]⟩)).set 0 (.bool false)
    simpa using this
  · refine (hs k (fun e => ?_) (fun e => ?_)).trans hko
    · subst e
      rw [show W.heap[k]? = _ from h.s] at hko
      cases hko
      cases hc
    · subst e
      rw [show W.heap[r + 1]? = _ from h.o] at hko
      cases hko
      cases hc
theorem any_prefix {pre R : List Pc} (h : pre <+: R) (ha : pre.any (·.ex) = true) : R.any (·.ex) = true := by
  obtain ⟨t, rfl⟩ := h
  simp [ha]
set_option maxHeartbeats 8000000 in
theorem value_m (l : List UInt8) (w : World) (hl : l.length ≤ 900) :
    Calls Try.prog 33 #[.string ⟨l.toArray⟩] w fun e w' => e = .returned (.tuple #[.string ⟨(valT l).toArray⟩, .bool (valB l)]) ∧ Below w.heap.size w w' := by
  have hpl := pcsL_len l
  obtain ⟨wa, hwa⟩ : ∃ wa, wa = ((w.alloc (.cells #[.string ⟨#[]⟩] 9)).alloc (.cells #[.bool false] 4)).alloc (.cells #[.pointer none, .slice none 0 0] 82) := ⟨_, rfl⟩
  have hsa : wa.heap.size = w.heap.size + 3 := by rw [hwa]; simp
  have hba : Below w.heap.size w wa := by rw [hwa]; exact (((Below.refl _ w).alloc (Nat.le_refl _) _).alloc (by simp) _).alloc (by simp; omega) _
  have hra : Rs8 w.heap.size (fun _ => False) wa := by
    rw [hwa]
    refine ⟨((Bk.new w _ _).alloc _).alloc _, Bk.alloc ?_ _, fun h => h, fun h => h⟩
    have := Bk.new (w.alloc (.cells #[.string ⟨#[]⟩] 9)) 4 #[.bool false]
    rwa [World.size_alloc] at this
  have hbb : Bk wa (w.heap.size + 2) 82 #[.pointer none, .slice none 0 0] := by
    rw [hwa]
    have := Bk.new ((w.alloc (.cells #[.string ⟨#[]⟩] 9)).alloc (.cells #[.bool false] 4)) 82 #[.pointer none, .slice none 0 0]
    rwa [World.size_alloc, World.size_alloc] at this
  have H := Lib.hid (And.intro hba (And.intro hra (And.intro hbb hwa)))
  clear hba hra hbb hwa
  refine (callsIn_wide (n := 5)).1 ?_
  refine callsIn_of_wp_marks Try.func33 rfl trivial ?_ rfl
  simp only [Try.ntmps33, List.size_toArray, List.length_cons, List.length_nil, Nat.reduceAdd, Nat.reduceSub, Array.replicate_succ, Array.replicate_zero, List.push_toArray, List.append_toArray, List.nil_append, List.cons_append]
  gi_wp2_with (first
    | (refine ⟨trivial, ?_⟩
       gi_at_call 61
       rw [← H.out.2.2.2]
       refine (callsIn_wide.2 (read_m wa l hl)).mono ?_
       rintro e w1 ⟨b, c, m, A, rfl, h1, h2⟩
       rw [hsa] at h1
       have H1 := Lib.hid (And.intro h1 h2)
       clear h1 h2)
    | (refine ⟨trivial, ?_⟩
       gi_at_call 62
       refine (callsIn_wide.2 (each_m b w1)).mono ?_
       rintro e w2 ⟨rfl, hw2⟩
       have hs1 : w.heap.size + 3 ≤ w1.heap.size := by have := H1.out.2.size; omega
       have H2 := Lib.hid (rdr_box2 H1.out.1 hs1 w2 hw2)
       clear hw2))
  obtain ⟨hrd, hrb, hrn, hb2⟩ := H2.out
  have hs2 := hrn.1
  have hs3 := hrn.2
  have hb12 : Below wa.heap.size wa w2 := H1.out.2.trans (hb2.mono (by omega))
  have hbw2 : Bk w2 (w.heap.size + 2) 82 #[.pointer none, .slice none 0 0] := H.out.2.2.1.below hb12 (by omega)
  have hrs2 : Rs8 w.heap.size (fun _ => False) w2 := H.out.2.1.same (hb12.block _ (by omega)) (hb12.block _ (by omega))
  have hBW : Below w.heap.size w w2 := H.out.1.trans (hb12.mono (by omega))
  have HX := Lib.hid (pcsL_tx l)
  refine rangeFunc_x (by omega) (gf := 87) (lb := #[.pointer (some ⟨w1.heap.size, 0, none⟩)]) rfl (enters_of Try.func87 (by kernel_rfl) rfl)
    (each_seq w2.heap.size w1.heap.size b c m (fun k => k < w.heap.size + 3) l A hl w2 hrd hrb hrn (Nat.le_refl _)) (fun h k => h.trans k) (fun W l o o' hl h1 h2 h3 => keepX_put W l o o' hl h1 h2 h3) (Below.refl _ _) (fun _ => rfl)
    (fun X pre W => Bb w.heap.size w2.heap.size (w.heap.size + 2) w (txL pre) X W ∧ (txL pre).length ≤ pre.length * 900 ∧ Rs8 w.heap.size X W ∧ pre.any (·.ex) = false)
    (fun cd X pre W => cd = .ret ∧ Rx8 w.heap.size w w.heap.size pre X W)
    ?fits (fun _ _ _ _ _ h hx => ⟨h.1, h.2.fits (Nat.le_refl _) hx⟩) ?own (fun _ _ s W W' row h hg hr => ⟨h.1, Rx8.own (by omega) (Nat.le_refl _) () W W' row h.2 hg hr⟩)
    ⟨⟨⟨_, _, .inl rfl, hbw2, World.ownsRow_nil _ _ _ _, fun h => h, fun _ _ h => h⟩, hBW, Nat.le_refl _, fun _ h => h.elim⟩, by simp [txL], hrs2, rfl⟩
    (fun x a' W => x.tx.length ≤ 900 ∧ ∃ bb, Bk W bb 56 (pcc x).toArray ∧ a' = { tmps := #[.string ⟨l.toArray⟩, undef, .pointer (some ⟨w.heap.size, 0, none⟩), .pointer (some ⟨w.heap.size + 1, 0, none⟩), .pointer (some ⟨w.heap.size + 2, 0, none⟩), .pointer (some ⟨bb, 0, none⟩), .string ⟨l.toArray⟩, .pointer (some ⟨b, 0, none⟩), .func (.func 87) #[] #[.pointer (some ⟨w1.heap.size, 0, none⟩)], .agg #[.bool x.ex, .bool x.qu, .string ⟨x.tx.toArray⟩], undef, undef, undef, undef, undef, undef], defers := [] })
    (fun x a' => OwnFrom.and (fun _ _ _ _ h _ _ => h) (bk_own _ _ _ _)) ?assign ?body ?done ?stop
  case fits =>
    rintro X s A C ⟨h1, h2, h3, h4⟩ hx
    exact ⟨Bb.fits (t := txL) (by omega) X s A C h1 hx, h2, h3.fits hx, h4⟩
  case own =>
    rintro X s W W' row ⟨h1, h2, h3, h4⟩ hg hr
    exact ⟨bb_own _ _ _ _ _ X _ (by omega) (Nat.le_refl _) () W W' row h1 hg hr, h2, Rs8.own () W W' row h3 hg hr, h4⟩
  case assign =>
    rintro l' X pre x W K ⟨hI, hI2, hI3, hI4⟩ hpx hK
    gi_wp2
    have hx9 : x.tx.length ≤ 900 := Nat.le_trans (HX.out x (hpx.subset (by simp))) hl
    exact hK _ _ (keepsFrom_below (Below.alloc (Below.refl _ _) (Nat.le_refl _) _)) (KeepX.of_below (Below.alloc (Below.refl _ _) (Nat.le_refl _) _) hI.sz) (fun k hk => Below.heap_alloc _ _ _ (hI.xb k hk).2) ⟨hI.alloc (Nat.le_refl _) _, hI2, hI3.same (Below.heap_alloc _ _ _ hI3.s.lt) (Below.heap_alloc _ _ _ hI3.o.lt), hI4⟩ ⟨hx9, _, Bk.new _ _ _, rfl⟩
  case body =>
    rintro l' X pre x a' W hl1 hl2 ⟨⟨⟨p, v, hp, h1, h2, h3, h4⟩, h5, h6, h7⟩, ht, hrs, hne⟩ ⟨hx9, bb, hbk, rfl⟩ hpx
    have hpn : pre.length + 1 ≤ 2000 := by have := hpx.length_le; simp at this; omega
    have hlen : (txL pre).length + x.tx.length ≤ 100000000 := by omega
    obtain ⟨x0, x1, x2, _⟩ := (show Bk W bb 56 #[.bool x.ex, .bool x.qu, .string ⟨x.tx.toArray⟩] from hbk).three
    have c0 := hrs.s.cell 0
    have c1 := hrs.o.cell 0
    simp only [List.getElem?_toArray, List.getElem?_cons_zero] at c0 c1
    have f0 := hrs.s.frozen 0
    have f1 := hrs.o.frozen 0
    have hrl := hrs.o.lt
    have HW := Lib.hid (And.intro hp (And.intro h1 (And.intro h2 (And.intro h3 (And.intro h4 (And.intro h5 (And.intro h6 h7)))))))
    have HZ := Lib.hid (And.intro hrs hne)
    clear hp h1 h2 h3 h4 h5 h6 h7 hpx hbk hl2 hrs hne
    cases hx : x.ex
    · have Hx := Lib.hid hx
      rw [hx] at x0
      clear hx
      gi_wp2_with (
        (refine ⟨trivial, ?_⟩
         gi_at_call 63
         obtain ⟨hp, h1, h2, h3, h4, h5, h6, h7⟩ := HW.out
         refine (in_round (write_b W w2.heap.size (w.heap.size + 2) p v (txL pre) x.tx hp h1 h2 h6 hlen)).mono ?_
         rintro e W' ⟨rfl, v', q1, q2, q3, q4, q5, q6, q7, q8⟩
         have hr8 := HZ.out.1.same (q8 w.heap.size (by omega) (by omega) (fun e => by have := (h2.lt _ e.symm).1; omega)) (q8 (w.heap.size + 1) (by omega) (by omega) (fun e => by have := (h2.lt _ e.symm).1; omega))
         have H8 := Lib.hid (And.intro hr8 (Bb.write (M := w2.heap.size) (n₀ := w2.heap.size) (n1 := w.heap.size + 3) h1 h2 h3 h4 h5 h6 h7 (Nat.le_refl _) (by omega) (by omega) (Nat.le_refl _) (by omega) q1 q2 q3 q4 q5 q6 q7 q8))
         clear q1 q2 q3 q4 q5 q6 q7 q8 hp h1 h2 h3 h4 h5 h6 h7 hr8))
      obtain ⟨hr8, q1, q2, q3, q4⟩ := H8.out
      exact ⟨q1, q2, q3, by rw [txL_snoc]; exact q4, by rw [txL_snoc, List.length_append, List.length_append]; simp only [List.length_cons, List.length_nil]; omega, hr8, by rw [List.any_append, HZ.out.2]; simp [Hx.out]⟩
    · have Hx := Lib.hid hx
      rw [hx] at x0
      clear hx
      gi_wp2_with fail
      obtain ⟨hp, h1, h2, h3, h4, h5, h6, h7⟩ := HW.out
      obtain ⟨z1, z2, z3, z4, z5⟩ := HZ.out.1.reset (B := w.heap.size) (M := w2.heap.size) (n₀ := w2.heap.size) (n1 := w.heap.size + 3) (Nat.le_refl _) (by omega) hrl
      exact ⟨z2, z3, z4, rfl, z1, h5.trans z5, fun k hk => ⟨(h7 k hk).1, Nat.lt_of_lt_of_le (h7 k hk).2 z5.size⟩, by rw [List.any_append]; simp [Hx.out]⟩
  case done =>
    rintro D X ys W hD rfl ⟨⟨⟨p, v, hp, h1, h2, h3, h4⟩, h5, h6, h7⟩, ht, hrs, hne⟩ hK
    have HD := Lib.hid (And.intro h5 (And.intro h2 (And.intro hK (And.intro h1 (And.intro hrs hne)))))
    clear hp h1 h2 h3 h4 h5 hK hrs hne
    gi_wp2_with (
      (refine ⟨trivial, ?_⟩
       gi_at_call 64
       refine (callsIn_wide.2 (str_b W (w.heap.size + 2) p v (txL (pcsL l)) w2.heap.size HD.out.2.2.2.1 HD.out.2.1)).mono ?_
       rintro e W3 ⟨rfl, hg⟩
       have hK3 : W3.heap[D]? = some (.deferred (some [])) := (hg.block D (Array.getElem?_eq_some_iff.1 HD.out.2.2.1).1 (fun e => by have := own_not_cells HD.out.2.1 e.symm HD.out.2.2.1; cases this)).trans HD.out.2.2.1
       have hb3 : Below w.heap.size w W3 := HD.out.1.grown hg (by have := HD.out.1.size; omega) (fun k hk => by have := (HD.out.2.1.lt k hk).1; omega)
       have hr3 : Rs8 w.heap.size X W3 := HD.out.2.2.2.2.1.same (hg.block _ HD.out.2.2.2.2.1.s.lt (fun e => by have := (HD.out.2.1.lt _ e.symm).1; omega)) (hg.block _ HD.out.2.2.2.2.1.o.lt (fun e => by have := (HD.out.2.1.lt _ e.symm).1; omega))
       have c0 := hr3.s.cell 0
       have c1 := hr3.o.cell 0
       simp only [List.getElem?_toArray, List.getElem?_cons_zero] at c0 c1
       have f0 := hr3.s.frozen 0
       have f1 := hr3.o.frozen 0
       have hrl := hr3.o.lt
       have H3 := Lib.hid (And.intro hb3 (And.intro hr3 hK3))
       clear hg hK3 hb3 hr3))
    obtain ⟨hb3, hr3, hK3⟩ := H3.out
    obtain ⟨W4, hW4⟩ : ∃ W4, W4 = (W3.setCell ⟨w.heap.size, 0, none⟩ (.string ⟨(txL (pcsL l)).toArray⟩)).setCell ⟨w.heap.size + 1, 0, none⟩ (.bool true) := ⟨_, rfl⟩
    rw [← hW4]
    have hs4 : Bk W4 w.heap.size 9 #[.string ⟨(txL (pcsL l)).toArray⟩] := by
      have := (hr3.s.set 0 (.string ⟨(txL (pcsL l)).toArray⟩)).far (p := ⟨w.heap.size + 1, 0, none⟩) (by show w.heap.size ≠ w.heap.size + 1; omega) (.bool true)
      rw [hW4]
      simpa using this
    have ho4 : Bk W4 (w.heap.size + 1) 4 #[.bool true] := by
      have := (hr3.o.far (p := ⟨w.heap.size, 0, none⟩) (by show w.heap.size + 1 ≠ w.heap.size; omega) (.string ⟨(txL (pcsL l)).toArray⟩)).set 0 (.bool true)
      rw [hW4]
      simpa using this
    have hK4 : W4.heap[D]? = some (.deferred (some [])) := by
      rw [hW4]
      exact (Below.heap_setCell _ _ _ D (by show D ≠ w.heap.size + 1; omega)).trans ((Below.heap_setCell _ _ _ D (by show D ≠ w.heap.size; omega)).trans hK3)
    have hb4 : Below w.heap.size w W4 := by
      rw [hW4]
      exact (hb3.setCell (p := ⟨w.heap.size, 0, none⟩) (Nat.le_refl _) _).setCell (p := ⟨w.heap.size + 1, 0, none⟩) (by show w.heap.size ≤ w.heap.size + 1; omega) _
    have hbk := belowK_b (w := w) (Nat.le_refl _) W4 D (.deferred (some [])) (.deferred none) (by omega) hK4 rfl rfl
    have e0 : (W4.putObj D (.deferred none)).cell? ⟨w.heap.size, 0, none⟩ = some (.string ⟨(txL (pcsL l)).toArray⟩) := by
      rw [Bk.cell (show Bk (W4.putObj D (.deferred none)) w.heap.size 9 #[.string ⟨(txL (pcsL l)).toArray⟩] from (World.putObj_heap_other (by omega)).trans hs4)]; rfl
    have e1 : (W4.putObj D (.deferred none)).cell? ⟨w.heap.size + 1, 0, none⟩ = some (.bool true) := by
      rw [Bk.cell (show Bk (W4.putObj D (.deferred none)) (w.heap.size + 1) 4 #[.bool true] from (World.putObj_heap_other (by omega)).trans ho4)]; rfl
    have hv : valB l = true := by unfold valB; rw [HD.out.2.2.2.2.2]; rfl
    have hvt : valT l = txL (pcsL l) := by unfold valT; rw [if_pos hv]
    refine ⟨by simp, .inl ⟨_, _, rfl, run_takeDeferred hK4, ?_⟩⟩
    exact ⟨.tuple #[.string ⟨(txL (pcsL l)).toArray⟩, .bool true], by simp [results, Try.results33, go_sem, e0, e1], ⟨by rw [hv, hvt], hb4.trans hbk⟩⟩
  case stop =>
    rintro D cd X pre W hD hSp ⟨rfl, hrx⟩ hK
    have hbk := belowK_b (w := w) (Nat.le_refl _) W D (.deferred (some [])) (.deferred none) (by omega) hK rfl rfl
    have e0 : (W.putObj D (.deferred none)).cell? ⟨w.heap.size, 0, none⟩ = some (.string ⟨#[]⟩) := by
      rw [Bk.cell (show Bk (W.putObj D (.deferred none)) w.heap.size 9 #[.string ⟨#[]⟩] from (World.putObj_heap_other (by omega)).trans hrx.rs.s)]; rfl
    have e1 : (W.putObj D (.deferred none)).cell? ⟨w.heap.size + 1, 0, none⟩ = some (.bool false) := by
      rw [Bk.cell (show Bk (W.putObj D (.deferred none)) (w.heap.size + 1) 4 #[.bool false] from (World.putObj_heap_other (by omega)).trans hrx.rs.o)]; rfl
    have hv : valB l = false := by unfold valB; rw [any_prefix hSp hrx.ex]; rfl
    have hvt : valT l = [] := by unfold valT; rw [hv]; rfl
    have HD := Lib.hid (And.intro hrx.bl (And.intro hbk (And.intro hK (And.intro hv hvt))))
    have HE := Lib.hid (And.intro e0 e1)
    clear hrx hbk hK e0 e1 hv hvt
    gi_wp2
    obtain ⟨e0, e1⟩ := HE.out
    refine ⟨by simp, .inl ⟨_, _, rfl, run_takeDeferred HD.out.2.2.1, ?_⟩⟩
    exact ⟨.tuple #[.string ⟨#[]⟩, .bool false], by simp [results, Try.results33, go_sem, e0, e1], ⟨by rw [HD.out.2.2.2.1, HD.out.2.2.2.2], HD.out.1.trans HD.out.2.1⟩⟩
end Go.Proofs.Ytjkiapgboljabaa
/- quillwortlaw08.awake. -/
namespace Go.Proofs.Ytjkiapgboljabaa
open Go.RowKit
set_option linter.unusedVariables false
set_option linter.unusedSimpArgs false
set_option maxRecDepth 100000
def awk8 : List UInt8 := [97, 39, 98, 32, 99, 39, 34, 100, 92, 34, 101, 34, 92, 102]
theorem awk8_b : valB awk8 = true := by decide +kernel
theorem awk8_t : valT awk8 = [97, 98, 32, 99, 100, 34, 101, 102] := by decide +kernel
theorem awake8_c (w : World) : Calls Try.prog 31 #[] w fun e w' => e = .returned (.bool true) ∧ Below w.heap.size w w' := by
  go_enter Try.func31, Try.ntmps31
  go_wp2_with (
    (go_at_call 33
     refine (value_m awk8 w (by decide)).mono ?_
     rintro e w1 ⟨he, hb1⟩
     rw [awk8_b, awk8_t] at he
     subst he))
  go_ret
  exact ⟨rfl, hb1⟩
end Go.Proofs.Ytjkiapgboljabaa
