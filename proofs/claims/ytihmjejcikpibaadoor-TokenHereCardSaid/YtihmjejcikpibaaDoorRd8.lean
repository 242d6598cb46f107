/- literal's reader: a text with its parts, and a map from places to the numbers of the parts that begin there. -/
import Derived.Test.YtihmjejcikpibaaDoorPl8
import Derived.Test.YtihmjejcikpibaaDoorIns
import Derived.Test.YtihmjejcikpibaaDoorRf
import Derived.Maps.Own
import Derived.Maps.OwnOps
import Derived.Maps.Views
import Derived.IntWalk
namespace Go.Proofs.YtihmjejcikpibaaDoor
open Go.RowKit
set_option linter.unusedVariables false
set_option linter.unusedSimpArgs false
set_option maxRecDepth 100000
/-- The number and one of the last of the first k parts that begins at a place. -/
def pnum (L : List Prt) (x : Int) : Nat → Int
  | 0 => 0
  | k + 1 => if (L.getD k dP).fr = x then (k : Int) + 1 else pnum L x k
theorem pnum_bd (L : List Prt) (x : Int) : ∀ k, 0 ≤ pnum L x k ∧ pnum L x k ≤ k
  | 0 => ⟨Int.le_refl _, Int.le_refl _⟩
  | k + 1 => by
    have := pnum_bd L x k
    unfold pnum
    split <;> omega
theorem pnum_none {L : List Prt} {x : Nat} (h : findP L x = none) : ∀ k, k ≤ L.length → pnum L (x : Int) k = 0
  | 0, _ => rfl
  | k + 1, hk => by
    unfold pnum
    have h1 := List.find?_eq_none.1 h L[k] (List.getElem_mem (by omega))
    have e : L.getD k dP = L[k] := getD_some (List.getElem?_eq_getElem (by omega))
    rw [e, if_neg (by simpa using h1)]
    exact pnum_none h k (by omega)
theorem pnum_at {L : List Prt} (hr : (frs L).Pairwise (· < ·)) {i : Nat} {q : Prt} (hi : L[i]? = some q) : ∀ k, i < k → k ≤ L.length → pnum L q.fr k = (i : Int) + 1
  | 0, h, _ => by omega
  | k + 1, h, hk => by
    unfold pnum
    have hlt : k < L.length := by omega
    have e : L.getD k dP = L[k] := getD_some (List.getElem?_eq_getElem hlt)
    rw [e]
    by_cases hik : k = i
    · subst hik
      have : L[k] = q := by obtain ⟨_, h2⟩ := List.getElem?_eq_some_iff.1 hi; exact h2
      rw [this, if_pos rfl]
    · have h2 := (rise_lt hr (i := k) (k := i) (List.getElem?_eq_getElem hlt) hi).1 (by omega)
      rw [if_neg (by omega)]
      exact pnum_at hr hi k (by omega) (by omega)
theorem find_num {L : List Prt} (hr : (frs L).Pairwise (· < ·)) {x : Nat} {q : Prt} (h : findP L x = some q) : ∃ i : Nat, L[i]? = some q ∧ pnum L (x : Int) L.length = (i : Int) + 1 := by
  have h1 := List.mem_of_find?_eq_some h
  have h2 : q.fr = x := by have := List.find?_some h; simpa using this
  obtain ⟨i, hi⟩ := List.mem_iff_getElem?.1 h1
  refine ⟨i, hi, ?_⟩
  rw [← h2]
  exact pnum_at hr hi _ (List.getElem?_eq_some_iff.1 hi).1 (Nat.le_refl _)
/-- Block b is the map of the first k parts. -/
def MP (w : World) (b : Nat) (L : List Prt) (k : Nat) : Prop := ∃ D : DataW Unit, w.ownsMap Tryd.prog 3 (plainElem Tryd.prog 3) b k D ∧ Maps.IsMap D ∧ ∀ x : Int, D.atKey (.int .i64 x) (.lit (.int .i64 0)) = .lit (.int .i64 (pnum L x k))
theorem parts_bnd' (l : List UInt8) (hl : l.length ≤ 900) : ∀ q ∈ partsL l, 0 ≤ q.fr ∧ q.fr ≤ 100000 := by
  intro q hq
  obtain ⟨f, t, h1, h2, h3, h4, _⟩ := part_two hq
  omega
theorem wf_i64' {a : Int} (h0 : -100000 ≤ a) (h1 : a ≤ 100000) : (Lit.int .i64 a).wf = true := WalkArith.wf_i64 (by omega)
theorem MP.made (w : World) (L : List Prt) : MP (w.alloc (.map #[] 0)) w.heap.size L 0 :=
  ⟨.map [], World.ownsMap_made w _ _ _, ⟨[], rfl⟩, fun x => rfl⟩
theorem MP.put {w : World} {b : Nat} {L : List Prt} {k : Nat} {q : Prt} (h : MP w b L k) (hq : L[k]? = some q) (hL : L.length ≤ 100000) (h0 : 0 ≤ q.fr) (h1 : q.fr ≤ 100000) :
    ∃ w', (Instr.mapUpdate 116 (.map (some b)) (.int .i64 q.fr) (.int .i64 ((k : Int) + 1))).run Tryd.prog w = .ok () w' ∧ MP w' b L (k + 1) ∧ w.grownBy w' (some b) := by
  obtain ⟨D, hD, hm, hat⟩ := h
  have hk := (List.getElem?_eq_some_iff.1 hq).1
  obtain ⟨w', hrun, hown, hg⟩ := hD.update (Maps.int_keyed Tryd.underlying3) Tryd.underlying116 (by unfold maxLen; omega) (Maps.keyOf_int_mk Tryd.underlying3 (wf_i64' (by omega) h1)) (plainElem_int Tryd.underlying3 (wf_i64' (a := (k : Int) + 1) (by omega) (by omega)))
  refine ⟨w', hrun, ⟨_, hown, hm.put _ _, fun x => ?_⟩, hg⟩
  have e : L.getD k dP = q := getD_some hq
  unfold pnum
  rw [e]
  by_cases hx : q.fr = x
  · subst hx
    rw [if_pos rfl, Maps.atKey_put_same hm (by trivial)]
  · rw [if_neg hx, Maps.atKey_put_other (by intro h; injection h with _ h; exact hx h.symm)]
    exact hat x
theorem MP.look {w : World} {b : Nat} {L : List Prt} {k : Nat} (h : MP w b L k) {x : Int} (h0 : -100000 ≤ x) (h1 : x ≤ 100000) :
    (Instr.lookup 116 (.map (some b)) (.int .i64 x) false).run Tryd.prog w = .ok (.int .i64 (pnum L x k)) w := by
  obtain ⟨D, hD, hm, hat⟩ := h
  obtain ⟨c, hrun, hc, _⟩ := hD.lookup_int (Maps.int_keyed Tryd.underlying3) Tryd.underlying116 Tryd.underlying3 (by kernel_rfl) (Maps.keyOf_int_mk Tryd.underlying3 (wf_i64' h0 h1))
  rw [hat x] at hc
  injection hc with hc
  injection hc with _ hc
  rw [hrun, hc]
theorem MP.kept {w w' : World} {b : Nat} {L : List Prt} {k : Nat} (h : MP w b L k) (hb : w'.heap[b]? = w.heap[b]?) : MP w' b L k := by
  obtain ⟨D, ⟨es, clock, h1, h2⟩, hm, hat⟩ := h
  exact ⟨D, ⟨es, clock, hb.trans h1, h2⟩, hm, hat⟩
theorem MP.lt {w : World} {b : Nat} {L : List Prt} {k : Nat} (h : MP w b L k) : b < w.heap.size := by
  obtain ⟨D, hD, _⟩ := h
  exact hD.lt
/-- A reader: its struct, its parts, its map; all below n₀, and none of the blocks X. -/
structure Rdr (w : World) (n₀ : Nat) (X : Nat → Prop) (b : Nat) (l : List UInt8) (A : Option Addr) (c m : Nat) : Prop where
  hd : Bk w b 118 #[.string ⟨l.toArray⟩, .slice A (partsL l).length c, .map (some m)]
  row : w.ownsRow 0 120 5 (.slice A (partsL l).length c) (partsL l).length (pcells (partsL l))
  mp : MP w m (partsL l) (partsL l).length
  bn : b < n₀ ∧ ¬ X b
  mn : m < n₀ ∧ ¬ X m
  rn : ∀ k, (Value.slice A (partsL l).length c).ownBlock = some k → k < n₀ ∧ ¬ X k
theorem Rdr.keep {w w' : World} {n₀ b c m : Nat} {X : Nat → Prop} {l : List UInt8} {A : Option Addr} (h : Rdr w n₀ X b l A c m) (hk : KeepX n₀ X w w') : Rdr w' n₀ X b l A c m := by
  refine ⟨(hk.same b h.bn.1 h.bn.2).trans h.hd, ⟨h.row.1, ?_⟩, h.mp.kept (hk.same m h.mn.1 h.mn.2), h.bn, h.mn, h.rn⟩
  rcases h.row.2 with h2 | ⟨g, cap, cur, he, hg, hh, r⟩
  · exact .inl h2
  · have hg2 := h.rn g (by rw [he]; rfl)
    exact .inr ⟨g, cap, cur, he, hg, (hk.same g hg2.1 hg2.2).trans hh, r⟩
theorem Rdr.below {w w' : World} {n₀ b c m : Nat} {X : Nat → Prop} {l : List UInt8} {A : Option Addr} (h : Rdr w n₀ X b l A c m) (hb : Below w.heap.size w w') (hn : n₀ ≤ w.heap.size) : Rdr w' n₀ X b l A c m := h.keep (KeepX.of_below hb hn)
def aggQ (q : Prt) : Value := .agg #[.int .i64 q.mode, .int .i64 q.fr, .int .i64 (toP q), .int .i64 q.up, .bool q.op]
/-- What 'at' answers. -/
def atV (o : Option Prt) : Value := match o with
  | none => .tuple #[.agg #[.int .i64 0, .int .i64 0, .int .i64 0, .int .i64 0, .bool false], .bool false]
  | some q => .tuple #[.agg #[.int .i64 q.mode, .int .i64 q.fr, .int .i64 (toP q), .int .i64 q.up, .bool q.op], .bool true]
set_option maxHeartbeats 1000000 in
theorem at_m (w : World) (n₀ b c m x : Nat) (X : Nat → Prop) (l : List UInt8) (A : Option Addr) (hl : l.length ≤ 900) (hx : x ≤ 1000) (h : Rdr w n₀ X b l A c m) (hn : n₀ ≤ w.heap.size) :
    Calls Tryd.prog 75 #[.pointer (some ⟨b, 0, none⟩), .int .i64 (x : Int)] w fun e w' => e = .returned (atV (findP (partsL l) x)) ∧ Below w.heap.size w w' := by
  have hpl := parts_len l
  have hw1 : Below w.heap.size w (w.alloc (.cells #[.int .i64 0, .int .i64 0, .int .i64 0, .int .i64 0, .bool false] 120)) := Below.alloc (Below.refl _ _) (Nat.le_refl _) _
  have h1 := h.below hw1 hn
  have y2 : (w.alloc (.cells #[.int .i64 0, .int .i64 0, .int .i64 0, .int .i64 0, .bool false] 120)).cell? ⟨b, 2, none⟩ = some (.map (some m)) := by rw [h1.hd.cell]; rfl
  have y1 : (w.alloc (.cells #[.int .i64 0, .int .i64 0, .int .i64 0, .int .i64 0, .bool false] 120)).cell? ⟨b, 1, none⟩ = some (.slice A (partsL l).length c) := by rw [h1.hd.cell]; rfl
  have hlk := h1.mp.look (x := (x : Int)) (by omega) (by omega)
  cases hf : findP (partsL l) x with
  | none =>
    rw [pnum_none hf _ (Nat.le_refl _)] at hlk
    have H := Lib.hid (And.intro hf hlk)
    clear hf hlk
    go_enter Tryd.func75, Tryd.ntmps75
    go_wp2_with fail
    rw [H.out.2]
    go_wp2_with fail
    exact bodyPost_ret (v := atV none) (by simp [results, Tryd.results75, go_sem, atV]) rfl ⟨rfl, Below.alloc (Below.refl _ _) (Nat.le_refl _) _⟩
  | some q =>
    obtain ⟨i, hi, hp⟩ := find_num (parts_rise l) hf
    rw [hp] at hlk
    have hiL := (List.getElem?_eq_some_iff.1 hi).1
    obtain ⟨g, rfl⟩ := own_at h1.row (by omega)
    obtain ⟨x0, x1, x2, x3, x4⟩ := pcells_at h1.row hi
    have v1 : (i : Int) < ((partsL l).length : Int) := by omega
    have v2 : (0 : Int) ≤ (i : Int) := by omega
    have t1 : ((i : Int) + 1 == 0) = false := by rw [beq_eq_false_iff_ne]; omega
    have H := Lib.hid (And.intro hf (And.intro hlk hp))
    clear hf hlk hp hi
    go_enter Tryd.func75, Tryd.ntmps75
    go_wp2_with fail
    rw [H.out.2.1]
    go_wp2_with fail
    exact bodyPost_ret (v := atV (some q)) (by simp [results, Tryd.results75, go_sem, atV]) rfl ⟨rfl, Below.alloc (Below.refl _ _) (Nat.le_refl _) _⟩
theorem step_mapUpdate {P : Program} {w : World} {ops : Array Oper} {o : Oper} {a : Act} {K : Act → World → Prop} {Q : Exit → Act → World → Prop} {E : Prop} (hgd : o.guard = none) (s x v : Operand) (t : TypeId)
    (ho : o.op = .mapUpdate t s x v) (sv xv vv : Value) (hs : a.eval s = sv) (hx : a.eval x = xv) (hv : a.eval v = vv) (w' : World) (hrun : (Instr.mapUpdate t sv xv vv).run P w = .ok () w') (h : K (a.put o.dst undef) w') :
    if Region.wanted o (yielded ops a.tmps) = true then Oper.wp P o a w K Q else E := by
  have hw : Region.wanted o (yielded ops a.tmps) = true := by simp [Region.wanted, hgd]
  rw [if_pos hw]
  unfold Oper.wp
  simp [execOp, ho, hs, hx, hv, hrun, Result.andThen]
  exact h
theorem MP.alloc {w : World} {b : Nat} {L : List Prt} {k : Nat} (h : MP w b L k) (o : Obj) : MP (w.alloc o) b L k := h.kept (Below.heap_alloc w o b h.lt)
theorem MP.drew {w : World} {b : Nat} {L : List Prt} {k : Nat} (h : MP w b L k) : MP w.drew b L k := h
theorem MP.below {w w' : World} {b : Nat} {L : List Prt} {k : Nat} (h : MP w b L k) (hb : Below w.heap.size w w') : MP w' b L k := h.kept (hb.block b h.lt)
set_option maxHeartbeats 2000000 in
theorem read_m (w : World) (l : List UInt8) (hl : l.length ≤ 900) :
    Calls Tryd.prog 51 #[.string ⟨l.toArray⟩] w fun e w' => ∃ (b c m : Nat) (A : Option Addr), e = .returned (.pointer (some ⟨b, 0, none⟩)) ∧ Rdr w' w'.heap.size (fun k => k < w.heap.size) b l A c m ∧ Below w.heap.size w w' := by
  have hpl := parts_len l
  have hbd := parts_bnd' l hl
  obtain ⟨L, hL⟩ : ∃ L, L = partsL l := ⟨_, rfl⟩
  rw [← hL] at hpl hbd
  have HL := Lib.hid (And.intro hL hbd)
  clear hL hbd
  go_enter Tryd.func51, Tryd.ntmps51
  go_wp2_with (
    (go_at_call 72
     refine (of_m l _ (by omega)).mono ?_
     rintro e w2 ⟨v, rfl, ho, hb2⟩
     rw [← HL.out.1] at ho
     obtain ⟨A, n, c, rfl⟩ := own_form' ho
     obtain rfl := own_len ho
     have H := Lib.hid (And.intro ho hb2)
     clear ho hb2))
  rw [run_makeMap]
  go_wp2_with fail
  obtain ⟨W0, hW0⟩ : ∃ W0, (w2.alloc (.map #[] 0)).alloc (.cells #[.string ⟨l.toArray⟩, .slice A L.length c, .map (some w2.heap.size)] 118) = W0 := ⟨_, rfl⟩
  have hmp0 : MP W0 w2.heap.size L 0 := by rw [← hW0]; exact (MP.made w2 L).alloc _
  have hbk0 : Bk W0 (w2.heap.size + 1) 118 #[.string ⟨l.toArray⟩, .slice A L.length c, .map (some w2.heap.size)] := by
    rw [← hW0]; have := Bk.new (w2.alloc (.map #[] 0)) 118 #[.string ⟨l.toArray⟩, .slice A L.length c, .map (some w2.heap.size)]; rwa [World.size_alloc] at this
  have hb0 : Below w2.heap.size w2 W0 := by rw [← hW0]; exact ((Below.refl _ w2).alloc (Nat.le_refl _) _).alloc (by simp) _
  have hs0 : W0.heap.size = w2.heap.size + 2 := by rw [← hW0]; simp
  rw [hW0]
  have HW := Lib.hid (And.intro hmp0 (And.intro hbk0 (And.intro hb0 hs0)))
  clear hW0 hmp0 hbk0 hb0 hs0
  go_loopw [17] (fun i wr => ∃ k : Nat, k ≤ L.length ∧ i = .int .i64 k ∧ MP wr w2.heap.size L k ∧ Bk wr (w2.heap.size + 1) 118 #[.string ⟨l.toArray⟩, .slice A L.length c, .map (some w2.heap.size)] ∧ Below w2.heap.size w2 wr) (fun i _ => L.length - (intOf i).toNat)
  case atStart => exact ⟨0, by omega, rfl, HW.out.1, HW.out.2.1, HW.out.2.2.1⟩
  case round =>
    obtain ⟨k, hk, rfl, hmp, hbk, hb⟩ := hrel
    by_cases hlt : k < L.length
    · have u1 : (k : Int) < (L.length : Int) := by omega
      have u2 : (0 : Int) ≤ (k : Int) := by omega
      have u3 : IntKind.i64.wrap ((k : Int) + 1) = (k : Int) + 1 := IntWalk.i64_in _ (by omega)
      obtain ⟨q, hq⟩ : ∃ q, L[k]? = some q := ⟨_, List.getElem?_eq_getElem hlt⟩
      have ho := own_below H.out.1 hb
      obtain ⟨g, rfl⟩ := own_at ho (by omega)
      obtain ⟨y0, y1, y2, y3, y4⟩ := pcells_at ho hq
      obtain ⟨b0, b1⟩ := HL.out.2 q (List.mem_of_getElem? hq)
      have z2 : wr.cell? ⟨w2.heap.size + 1, 2, none⟩ = some (.map (some w2.heap.size)) := by rw [hbk.cell]; rfl
      have hbl := hbk.lt
      have hnew : Below wr.heap.size wr (wr.alloc (.cells #[.int .i64 q.mode, .int .i64 q.fr, .int .i64 (toP q), .int .i64 q.up, .bool q.op] 120)) := Below.alloc (Below.refl _ _) (Nat.le_refl _) _
      obtain ⟨w7, hrun7, hmp7, hg7⟩ := (hmp.below hnew).drew.put hq (by omega) b0 b1
      have z3 : (wr.alloc (.cells #[.int .i64 q.mode, .int .i64 q.fr, .int .i64 (toP q), .int .i64 q.up, .bool q.op] 120)).cell? ⟨w2.heap.size + 1, 2, none⟩ = some (.map (some w2.heap.size)) := (hnew.cell (p := ⟨w2.heap.size + 1, 2, none⟩) hbl).trans z2
      have HQ := Lib.hid (And.intro hmp7 (And.intro hg7 (And.intro hrun7 (And.intro hbk (And.intro hb hnew)))))
      clear hmp7 hg7 hrun7 hbk hb hnew hmp hq ho z2
      go_wp2_with fail
      have hrun7 := HQ.out.2.2.1
      go_region
      all_goals (
        clear u3 hrun7
        go_wp2_with fail
        obtain ⟨hmp7, hg7, _, hbk, hb, hnew⟩ := HQ.out
        exact ⟨⟨k + 1, by omega, by go_num, hmp7, ((hbk.below hnew hbk.lt).drew).grown hg7 (by simp), ((hb.trans (hnew.mono hb.size)).drew).grown hg7 (by have := hb.size; simp; omega) (by intro j hj; injection hj with hj; omega)⟩, by simp [intOf]; omega⟩)
    · obtain rfl : k = L.length := by omega
      have HQ := Lib.hid (And.intro hmp (And.intro hbk hb))
      clear hmp hbk hb
      go_wp2_with fail
      go_ret
      obtain ⟨hmp, hbk, hb⟩ := HQ.out
      obtain ⟨ho, hb2⟩ := H.out
      refine ⟨_, c, w2.heap.size, A, rfl, ⟨?_, ?_, ?_, ⟨hbk.lt, by have := hb2.size; simp; omega⟩, ⟨hmp.lt, by have := hb2.size; simp; omega⟩, ?_⟩, hb2.trans (hb.mono hb2.size)⟩
      · rw [← HL.out.1]; exact hbk
      · rw [← HL.out.1]; exact own_base (own_below ho hb) (Nat.zero_le _)
      · rw [← HL.out.1]; exact hmp
      · rw [← HL.out.1]
        intro j hj
        have h1 := ho.lt j hj
        have := hb.size
        exact ⟨by omega, by simp; omega⟩
theorem Rdr.weak {w : World} {n₀ n₁ b c m : Nat} {X Y : Nat → Prop} {l : List UInt8} {A : Option Addr} (h : Rdr w n₀ X b l A c m) (hX : ∀ k, Y k → X k) (hn : n₀ ≤ n₁) : Rdr w n₁ Y b l A c m :=
  ⟨h.hd, h.row, h.mp, ⟨by have := h.bn.1; omega, fun hy => h.bn.2 (hX _ hy)⟩, ⟨by have := h.mn.1; omega, fun hy => h.mn.2 (hX _ hy)⟩, fun k hk => ⟨by have := (h.rn k hk).1; omega, fun hy => (h.rn k hk).2 (hX _ hy)⟩⟩
end Go.Proofs.YtihmjejcikpibaaDoor
