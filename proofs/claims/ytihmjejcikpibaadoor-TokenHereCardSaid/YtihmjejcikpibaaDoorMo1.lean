/- The program's machine (modes.Machine) in memory: its frames hold the modes of a stack of letters; open, shut, become, below, New. -/
import Derived.Test.YtihmjejcikpibaaDoorMem
import Derived.Test.YtihmjejcikpibaaDoorPl6
import Derived.Test.YtihmjejcikpibaaDoorByte
namespace Go.Proofs.YtihmjejcikpibaaDoor
open Go.RowKit
set_option linter.unusedVariables false
set_option linter.unusedSimpArgs false
set_option maxRecDepth 100000
def fcells (st : Stk) : List Value := st.reverse.flatMap fun x => [.int .i64 (modeOf x.1), .int .i64 x.2]
theorem fcells_cons (c : UInt8) (p : Int) (st : Stk) : fcells ((c, p) :: st) = fcells st ++ [.int .i64 (modeOf c), .int .i64 p] := by simp [fcells]
theorem fcells_len (st : Stk) : (fcells st).length = st.length * 2 := by
  induction st with
  | nil => rfl
  | cons x st ih => obtain ⟨c, p⟩ := x; rw [fcells_cons]; simp [ih]; omega
/-- The machine behind the pointer ⟨b, 0⟩: all its memory lies from B on. -/
def Mach (w : World) (B b : Nat) (st : Stk) (f : Bool) (at_ : Int) : Prop :=
  B ≤ b ∧ ∃ g cap, Bk w b 109 #[.slice (some ⟨g, 0, none⟩) st.length cap, .bool f, .int .i64 at_] ∧ w.ownsRow B 107 2 (.slice (some ⟨g, 0, none⟩) st.length cap) st.length (fcells st)
theorem Mach.below {w w' : World} {B b : Nat} {st : Stk} {f : Bool} {at_ : Int} (h : Mach w B b st f at_) (hb : Below w.heap.size w w') : Mach w' B b st f at_ := by
  obtain ⟨h1, g, cap, h2, h3⟩ := h
  exact ⟨h1, g, cap, h2.below hb h2.lt, own_below h3 hb⟩
theorem Mach.le {w : World} {B b : Nat} {st : Stk} {f : Bool} {at_ : Int} (h : Mach w B b st f at_) : B ≤ b ∧ b < w.heap.size := by
  obtain ⟨h1, g, cap, h2, h3⟩ := h
  exact ⟨h1, h2.lt⟩
/-- Below B nothing has turned; and of what lay there, blocks of machines and of frames alone. -/
structure BM (B : Nat) (w w' : World) : Prop where
  b : Below B w w'
  t : KT [109, 107] w w'
theorem BM.refl (B : Nat) (w : World) : BM B w w := ⟨Below.refl _ _, KT.refl _ _⟩
theorem BM.trans {B : Nat} {a b c : World} (h : BM B a b) (h' : BM B b c) : BM B a c := ⟨h.b.trans h'.b, h.t.trans h'.t⟩
theorem BM.drewN {B : Nat} {a b : World} (h : BM B a b) (n : Nat) : BM B a (b.drewN n) := ⟨below_drewN' h.b n, h.t.drewN n⟩
theorem BM.setCell {B b : Nat} {a w : World} {st : Stk} {f : Bool} {at_ : Int} (h : BM B a w) (hm : Mach w B b st f at_) {i : Nat} (v : Value) : BM B a (w.setCell ⟨b, i, none⟩ v) := by
  obtain ⟨h1, g, cap, h2, h3⟩ := hm
  exact ⟨h.b.setCell h1 v, h.t.setCell h2 (by simp) i v⟩
/-- A machine that others leave alone. -/
theorem Mach.kt {T : List TypeId} {w w' : World} {B b : Nat} {st : Stk} {f : Bool} {at_ : Int} (h : Mach w B b st f at_) (hk : KT T w w') (h1 : 109 ∉ T) (h2 : 107 ∉ T) : Mach w' B b st f at_ := by
  obtain ⟨m1, g, cap, m2, m3⟩ := h
  exact ⟨m1, g, cap, m2.kt hk h1, own_kt m3 hk h2⟩
/-- What a method answers: v; the machine is at st; below B nothing has turned. -/
def Mo (w : World) (B b : Nat) (v : Value) (st : Stk) (f : Bool) (at_ : Int) (e : Ending) (w' : World) : Prop := e = .returned v ∧ Mach w' B b st f at_ ∧ BM B w w'
theorem mo_mk {w w' : World} {B b : Nat} {v : Value} {st st' : Stk} {f f' : Bool} {at_ : Int} (h : Mach w' B b st' f' at_) (hb : BM B w w') (hs : st' = st) (hf : f' = f) : Mo w B b v st f at_ (.returned v) w' := by
  subst hs hf
  exact ⟨rfl, h, hb⟩
theorem Mach.setFresh {w : World} {B b : Nat} {st : Stk} {f : Bool} {at_ : Int} (h : Mach w B b st f at_) (f' : Bool) : Mach (w.setCell ⟨b, 1, none⟩ (.bool f')) B b st f' at_ := by
  obtain ⟨h1, g, cap, h2, h3⟩ := h
  refine ⟨h1, g, cap, by simpa using h2.set 1 (.bool f'), own_far h3 ?_ _⟩
  exact own_ne h3 h2 (by decide)
theorem Mach.setAt {w : World} {B b : Nat} {st : Stk} {f : Bool} {at_ : Int} (h : Mach w B b st f at_) (k : Int) : Mach (w.setCell ⟨b, 2, none⟩ (.int .i64 k)) B b st f k := by
  obtain ⟨h1, g, cap, h2, h3⟩ := h
  refine ⟨h1, g, cap, by simpa using h2.set 2 (.int .i64 k), own_far h3 ?_ _⟩
  exact own_ne h3 h2 (by decide)
theorem become_m (B b : Nat) (st : Stk) (f : Bool) (at_ p : Int) (c d : UInt8) (w : World) (h : Mach w B b ((c, p) :: st) f at_) :
    Calls Tryd.prog 65 #[.pointer (some ⟨b, 0, none⟩), .int .i64 (modeOf d)] w (Mo w B b (.tuple #[]) ((d, p) :: st) f at_) := by
  obtain ⟨h1, g, cap, h2, h3⟩ := h
  have hle := own_le h3
  have hcap := hle.2.2.1
  have hc1 : st.length + 1 ≤ cap := hle.2.1
  unfold maxLen at hcap
  have c0 : w.cell? ⟨b, 0, none⟩ = some (.slice (some ⟨g, 0, none⟩) (st.length + 1) cap) := by rw [h2.cell]; rfl
  have c1 : w.cell? ⟨g, st.length * 2, none⟩ = some (.int .i64 (modeOf c)) := own_cell h3 _ _ (by rw [fcells_cons, List.getElem?_append_right (by rw [fcells_len]; omega)]; simp [fcells_len])
  have f1 := own_frozen h3 (st.length * 2)
  have H := Lib.hid (And.intro h1 (And.intro h2 h3))
  clear h1 h2 h3 hle
  generalize hn : st.length = n at *
  have HN := Lib.hid hn
  clear hn
  go_enter Tryd.func65, Tryd.ntmps65
  go_wp2
  go_region
  all_goals go_end0
  all_goals (
    obtain ⟨h1, h2, h3⟩ := H.out
    have hn := HN.out
    subst hn
    refine ⟨rfl, ⟨h1, g, cap, ?_, ?_⟩, ?_⟩
    · exact (h2.far (show b ≠ g from fun e => own_ne h3 h2 (by decide) (by rw [e]; rfl)) _).drew
    · refine own_drew ?_
      have := own_set h3 (st.length * 2) (.int .i64 (modeOf d))
      have e : (fcells ((c, p) :: st)).set (st.length * 2) (.int .i64 (modeOf d)) = fcells ((d, p) :: st) := by
        rw [fcells_cons, fcells_cons, List.set_append_right _ _ (by rw [fcells_len]; omega)]
        simp [fcells_len]
      rw [e] at this
      exact this
    · exact ⟨((Below.refl _ _).setCell (own_le h3).2.2.2.1 _).drew, ((KT.refl _ _).setCell (own_heap h3) (by simp) _ _).drew⟩)
theorem shut_m (B b : Nat) (st : Stk) (f : Bool) (at_ p : Int) (c : UInt8) (w : World) (h : Mach w B b ((c, p) :: st) f at_) (hne : st ≠ []) :
    Calls Tryd.prog 66 #[.pointer (some ⟨b, 0, none⟩)] w (Mo w B b (.tuple #[]) st f at_) := by
  obtain ⟨h1, g, cap, h2, h3⟩ := h
  obtain ⟨x, r, rfl⟩ := List.exists_cons_of_ne_nil hne
  have hle := own_le h3
  have hcap := hle.2.2.1
  have hc1 : r.length + 2 ≤ cap := hle.2.1
  unfold maxLen at hcap
  have c0 : w.cell? ⟨b, 0, none⟩ = some (.slice (some ⟨g, 0, none⟩) (r.length + 2) cap) := by rw [h2.cell]; rfl
  have f1 := h2.frozen 0
  have H := Lib.hid (And.intro h1 (And.intro h2 h3))
  clear h1 h2 h3 hle hne
  generalize hn : r.length = n at *
  have HN := Lib.hid hn
  clear hn
  go_enter Tryd.func66, Tryd.ntmps66
  go_wp2
  go_region
  all_goals go_wp2
  all_goals go_end0
  all_goals (
    obtain ⟨h1, h2, h3⟩ := H.out
    have hn := HN.out
    subst hn
    refine ⟨rfl, ⟨h1, g, cap, ?_, ?_⟩, ?_⟩
    · have := (h2.set 0 (.slice (some ⟨g, 0, none⟩) (r.length + 1) cap)).drew
      simpa using this
    · refine own_drew (own_far ?_ ?_ _)
      · rw [fcells_cons] at h3
        exact ownsRow_pop (fcells_len _) h3
      · have := own_ne h3 h2 (by decide)
        simpa [Value.ownBlock] using this
    · exact ⟨((Below.refl _ _).setCell h1 _).drew, ((KT.refl _ _).setCell h2 (by simp) _ _).drew⟩)
theorem below_m (B b : Nat) (st : Stk) (f : Bool) (at_ p q : Int) (c d : UInt8) (w : World) (h : Mach w B b ((c, p) :: (d, q) :: st) f at_) :
    Calls Tryd.prog 84 #[.pointer (some ⟨b, 0, none⟩)] w fun e w' => e = .returned (.int .i64 (modeOf d)) ∧ ∃ n, w' = w.drewN n := by
  obtain ⟨h1, g, cap, h2, h3⟩ := h
  have hle := own_le h3
  have hcap := hle.2.2.1
  have hc1 : st.length + 2 ≤ cap := hle.2.1
  unfold maxLen at hcap
  have c0 : w.cell? ⟨b, 0, none⟩ = some (.slice (some ⟨g, 0, none⟩) (st.length + 2) cap) := by rw [h2.cell]; rfl
  have c1 : w.cell? ⟨g, st.length * 2, none⟩ = some (.int .i64 (modeOf d)) := own_cell h3 _ _ (by
    rw [fcells_cons, fcells_cons, List.append_assoc, List.getElem?_append_right (by rw [fcells_len]; omega)]; simp [fcells_len])
  clear h1 h2 h3 hle
  generalize st.length = n at *
  go_enter Tryd.func84, Tryd.ntmps84
  go_wp2
  go_quiet (fail)
  go_wp2
  go_ret
  exact ⟨rfl, _, rfl⟩
theorem Tryd.infoFrame : (Tryd.prog.info? 107).map (fun i => (i.zero, i.size, i.bytes)) = some (some (.agg #[.int .i64 0, .int .i64 0]), 2, 16) := by kernel_rfl
theorem rd_two (w : World) (x y : Value) (t : TypeId) : Rd (w.alloc (.cells #[x, y] t)) (w.heap.size + 1) 2 (.slice (some ⟨w.heap.size, 0, none⟩) 1 1) 1 [x, y] := rd_new w [x, y] t 2 1 rfl (by omega)
theorem open_m (B b : Nat) (st : Stk) (f : Bool) (at_ : Int) (d : UInt8) (w : World) (h : Mach w B b st f at_) (hne : st ≠ []) (hl : st.length ≤ 1000000) :
    Calls Tryd.prog 86 #[.pointer (some ⟨b, 0, none⟩), .int .i64 (modeOf d)] w (Mo w B b (.tuple #[]) ((d, at_) :: st) f at_) := by
  obtain ⟨h1, g, cap, h2, h3⟩ := h
  have c0 : w.cell? ⟨b, 0, none⟩ = some (.slice (some ⟨g, 0, none⟩) st.length cap) := by rw [h2.cell]; rfl
  have c2 : w.cell? ⟨b, 2, none⟩ = some (.int .i64 at_) := by rw [h2.cell]; rfl
  have f0 := h2.frozen 0
  have hbl := h2.lt
  have hle := own_le h3
  have hgb : ¬ g = b := fun e => own_ne h3 h2 (by decide) (by rw [e]; rfl)
  have hbg : ¬ b = g := fun e => hgb e.symm
  have hB : B ≤ w.heap.size := by omega
  have H := Lib.hid (And.intro h1 (And.intro h2 (And.intro h3 hle)))
  clear h1 h2 h3 hle hne
  generalize hn : st.length = n at *
  have HN := Lib.hid hn
  clear hn
  obtain ⟨i0, hi, hz0, hz1, hz2⟩ := info_parts Tryd.infoFrame
  go_enter Tryd.func86, Tryd.ntmps86
  go_wp2
  go_region_law (first
    | (refine step_append_rd rfl (.tmp 8) (.tmp 15) 75 rfl B 107 i0 _ 2 16 Tryd.underlying75 hi hz0 hz1 hz2 rfl (by decide) (.slice (some ⟨g, 0, none⟩) n cap) n (fcells st) (by simp [Act.eval]) (H.out.2.2.1.alloc _) (.slice (some ⟨w.heap.size, 0, none⟩) 1 1) 1 (w.heap.size + 1) [.int .i64 (modeOf d), .int .i64 at_] (by simp [Act.eval]) (Rd.drew (rd_two w _ _ _)) (by intro u hu; simp at hu; rcases hu with rfl | rfl <;> rfl) (by unfold maxLen; omega) (by omega) (by simp; omega) ?_
       intro v1 w1 hown1 hg1 hv1
       obtain ⟨g', cap', rfl⟩ := own_some hown1
       have kk := (H.out.2.1.alloc (.cells #[.int .i64 (modeOf d), .int .i64 at_] 107)).drew.grown (row := some g) hg1 (by simpa using hbg)
       have y0 := kk.cell 0
       simp only [List.getElem?_toArray, List.getElem?_cons_zero] at y0
       have y1 := kk.frozen 0
       have H1 := Lib.hid (And.intro hown1 (And.intro hg1 kk))
       clear hown1 hg1 hv1 kk))
  all_goals go_wp2
  all_goals go_end0
  all_goals (
    obtain ⟨h1, h2, h3, hle⟩ := H.out
    obtain ⟨hown1, hg1, kk⟩ := H1.out
    have hn := HN.out
    subst hn
    refine ⟨rfl, ⟨h1, g', cap', ?_, ?_⟩, ?_⟩
    · simpa using kk.set 0 (.slice (some ⟨g', 0, none⟩) (st.length + 1) cap')
    · rw [fcells_cons]
      refine own_far hown1 ?_ _
      have := own_ne hown1 kk (by decide)
      exact this
    · exact ⟨Below.setCell ((Below.alloc (Below.refl _ _) hB _).drew.grown (row := some g) hg1 (by simp; omega) (by intro k hk; injection hk with hk; omega)) h1 _, (((KT.refl _ _).alloc _).drew.grown (row := some g) hg1 (by intro k hk; injection hk with hk; subst hk; obtain ⟨cs, t, fr, q1, q2⟩ := own_blk (own_drew (h3.alloc _)) g rfl; exact ⟨cs, t, fr, q1, by rw [q2]; simp⟩)).setCell kk (by simp) _ _⟩)
theorem new_m (w : World) : Calls Tryd.prog 44 #[] w fun e w' => ∃ b, e = .returned (.pointer (some ⟨b, 0, none⟩)) ∧ Mach w' w.heap.size b [(84, 0)] true 0 ∧ Below w.heap.size w w' := by
  go_enter Tryd.func44, Tryd.ntmps44
  go_wp2
  go_returns
  refine ⟨w.heap.size + 1, rfl, ⟨Nat.le_succ _, w.heap.size, 1, ?_, ?_⟩, by go_grown⟩
  · simpa using Bk.new (w.alloc (.cells #[.int .i64 0, .int .i64 0] 107)) 109 #[.slice (some ⟨w.heap.size, 0, none⟩) 1 1, .bool true, .int .i64 0]
  · refine World.ownsRow.alloc ?_ _
    exact ⟨rfl, .inr ⟨w.heap.size, 1, _, rfl, Nat.le_refl _, Bk.new _ _ _, Nat.le_refl _, by unfold maxLen; omega, rfl, rfl⟩⟩
end Go.Proofs.YtihmjejcikpibaaDoor
/- The program's machine: what opens in most modes (modes.inner). -/
namespace Go.Proofs.YtihmjejcikpibaaDoor
open Go.RowKit
set_option linter.unusedVariables false
set_option linter.unusedSimpArgs false
set_option maxRecDepth 100000
theorem Mach.cells {w : World} {B b : Nat} {st : Stk} {f : Bool} {at_ : Int} (h : Mach w B b st f at_) : w.cell? ⟨b, 1, none⟩ = some (.bool f) ∧ w.cell? ⟨b, 2, none⟩ = some (.int .i64 at_) ∧ w.frozen? ⟨b, 1, none⟩ = false ∧ w.frozen? ⟨b, 2, none⟩ = false ∧ b < w.heap.size := by
  obtain ⟨_, g, cap, h2, _⟩ := h
  exact ⟨by rw [h2.cell]; rfl, by rw [h2.cell]; rfl, h2.frozen _, h2.frozen _, h2.lt⟩
theorem open_k (B b : Nat) (st : Stk) (f : Bool) (at_ : Int) (d : UInt8) (m : Int) (w : World) (hm : m = modeOf d) (h : Mach w B b st f at_) (hne : st ≠ []) (hl : st.length ≤ 100000) :
    Calls Tryd.prog 86 #[.pointer (some ⟨b, 0, none⟩), .int .i64 m] w (Mo w B b (.tuple #[]) ((d, at_) :: st) f at_) := by
  subst hm; exact open_m B b st f at_ d w h hne (by omega)
theorem become_k (B b : Nat) (st : Stk) (f : Bool) (at_ p : Int) (c d : UInt8) (m : Int) (w : World) (hm : m = modeOf d) (h : Mach w B b ((c, p) :: st) f at_) :
    Calls Tryd.prog 65 #[.pointer (some ⟨b, 0, none⟩), .int .i64 m] w (Mo w B b (.tuple #[]) ((d, p) :: st) f at_) := by
  subst hm; exact become_m B b st f at_ p c d w h
set_option maxHeartbeats 1000000 in
theorem inner_92 (B b : Nat) (st : Stk) (f : Bool) (at_ : Int) (w : World) (h : Mach w B b st f at_) (hne : st ≠ []) (hl : st.length ≤ 100000) :
    Calls Tryd.prog 97 #[.pointer (some ⟨b, 0, none⟩), .int .u8 ((92 : UInt8).toNat : Int)] w (Mo w B b (.bool true) ((88, at_) :: st) f at_) := by
  obtain ⟨x0, x1, x2, x3, x4⟩ := h.cells
  have HM := Lib.hid h
  clear h
  go_enter Tryd.func97, Tryd.ntmps97
  go_wp2_with (first
    | (go_at_call 86
       with_reducible refine (open_k B b _ _ _ 88 13 _ rfl HM.out hne hl).mono ?_
       rintro e w1 ⟨rfl, hm1, hb1⟩
       obtain ⟨x0, x1, x2, x3, x4⟩ := hm1.cells
       have q1 : BM B w w1 := hb1
       have HM1 := Lib.hid hm1
       clear hm1))
  go_ret
  exact mo_mk HM1.out q1 rfl rfl

set_option maxHeartbeats 1000000 in
theorem inner_36 (B b : Nat) (st : Stk) (f : Bool) (at_ : Int) (w : World) (h : Mach w B b st f at_) (hne : st ≠ []) (hl : st.length ≤ 100000) :
    Calls Tryd.prog 97 #[.pointer (some ⟨b, 0, none⟩), .int .u8 ((36 : UInt8).toNat : Int)] w (Mo w B b (.bool true) ((76, at_) :: st) f at_) := by
  obtain ⟨x0, x1, x2, x3, x4⟩ := h.cells
  have HM := Lib.hid h
  clear h
  go_enter Tryd.func97, Tryd.ntmps97
  go_wp2_with (first
    | (go_at_call 86
       with_reducible refine (open_k B b _ _ _ 76 12 _ rfl HM.out hne hl).mono ?_
       rintro e w1 ⟨rfl, hm1, hb1⟩
       obtain ⟨x0, x1, x2, x3, x4⟩ := hm1.cells
       have q1 : BM B w w1 := hb1
       have HM1 := Lib.hid hm1
       clear hm1))
  go_ret
  exact mo_mk HM1.out q1 rfl rfl

set_option maxHeartbeats 1000000 in
theorem inner_96 (B b : Nat) (st : Stk) (f : Bool) (at_ : Int) (w : World) (h : Mach w B b st f at_) (hne : st ≠ []) (hl : st.length ≤ 100000) :
    Calls Tryd.prog 97 #[.pointer (some ⟨b, 0, none⟩), .int .u8 ((96 : UInt8).toNat : Int)] w (Mo w B b (.bool true) ((66, at_) :: st) f at_) := by
  obtain ⟨x0, x1, x2, x3, x4⟩ := h.cells
  have HM := Lib.hid h
  clear h
  go_enter Tryd.func97, Tryd.ntmps97
  go_wp2_with (first
    | (go_at_call 86
       with_reducible refine (open_k B b _ _ _ 66 6 _ rfl HM.out hne hl).mono ?_
       rintro e w1 ⟨rfl, hm1, hb1⟩
       obtain ⟨x0, x1, x2, x3, x4⟩ := hm1.cells
       have q1 : BM B w w1 := hb1
       have HM1 := Lib.hid hm1
       clear hm1))
  go_ret
  exact mo_mk HM1.out q1 rfl rfl

set_option maxHeartbeats 1000000 in
theorem inner_no (B b : Nat) (st : Stk) (c : UInt8) (f : Bool) (at_ : Int) (w : World) (h : Mach w B b st f at_) (h92 : ((c.toNat : Int) == 92) = false) (h36 : ((c.toNat : Int) == 36) = false) (h96 : ((c.toNat : Int) == 96) = false) :
    Calls Tryd.prog 97 #[.pointer (some ⟨b, 0, none⟩), .int .u8 (c.toNat : Int)] w (Mo w B b (.bool false) st f at_) := by
  obtain ⟨x0, x1, x2, x3, x4⟩ := h.cells
  have HM := Lib.hid h
  clear h
  go_enter Tryd.func97, Tryd.ntmps97
  go_wp2
  go_ret
  exact mo_mk HM.out (BM.refl _ _) rfl rfl

theorem inner_yes (B b : Nat) (st : Stk) (f : Bool) (at_ : Int) (c d : UInt8) (w : World) (h : Mach w B b st f at_) (hne : st ≠ []) (hl : st.length ≤ 100000) (hd : opensL c = [d]) :
    Calls Tryd.prog 97 #[.pointer (some ⟨b, 0, none⟩), .int .u8 (c.toNat : Int)] w (Mo w B b (.bool true) ((d, at_) :: st) f at_) := by
  have hc : (c = 92 ∧ d = 88) ∨ (c = 36 ∧ d = 76) ∨ (c = 96 ∧ d = 66) := by
    have := byte_all (fun c => (c == 92 && opensL c == [88]) || (c == 36 && opensL c == [76]) || (c == 96 && opensL c == [66]) || opensL c == []) (by decide +kernel) c
    simp [hd] at this
    simpa [or_assoc] using this
  rcases hc with ⟨rfl, rfl⟩ | ⟨rfl, rfl⟩ | ⟨rfl, rfl⟩
  · exact inner_92 B b st f at_ w h hne hl
  · exact inner_36 B b st f at_ w h hne hl
  · exact inner_96 B b st f at_ w h hne hl
end Go.Proofs.YtihmjejcikpibaaDoor
