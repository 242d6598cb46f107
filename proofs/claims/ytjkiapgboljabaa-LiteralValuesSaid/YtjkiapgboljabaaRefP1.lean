/- The reference's step of the machine in the plain modes (quillwortref06.plain), case by case. -/
import Derived.Test.YtjkiapgboljabaaRefM1
import Derived.Test.YtjkiapgboljabaaRefM0
namespace Go.Proofs.Ytjkiapgboljabaa
open Go.RowKit
set_option linter.unusedVariables false
set_option linter.unusedSimpArgs false
set_option maxRecDepth 100000
set_option maxHeartbeats 2000000 in
theorem pl_84 (S : List UInt8) (A : Option Addr) (n k : Nat) (st : Stk) (f : Bool) (b : UInt8) (at_ : Int) (w : World) (h : Rs w S A n k st) (hd : UInt8 × Int) (hst : st = hd :: st.tail) (hl : st.length ≤ 1000) :
    Calls Try.prog 82 #[.agg #[.string ⟨S.toArray⟩, .slice A n k, .bool f], .int .u8 ((84 : UInt8).toNat : Int), .int .u8 ((b : UInt8).toNat : Int), .int .i64 at_] w (Ro w (rPlain st f 84 b at_).1 (rPlain st f 84 b at_).2) := by
  have hne : st ≠ [] := by rw [hst]; simp
  have H := Lib.hid h
  have Hst := Lib.hid hst
  clear h hst
  go_enter Try.func82, Try.ntmps82
  go_wp2_with (first
    | (go_at_call 104; refine (program_r S A n k st f 84 b at_ _ (H.out.next (by go_grown)) hne hl).mono ?_
       rintro e w1 ⟨S1, A1, n1, k1, rfl, hx1, hb1⟩
       have Hx1 := Lib.hid hx1
       clear hx1
       have hz1 := hb1.size
       have hz1 : w.heap.size + 1 < w1.heap.size := by simp at hz1; omega
       have q1 : Below w.heap.size w w1 := below_next (by go_grown) hb1
       have kk1 := Bk.below (cs := #[.string ⟨#[]⟩, .slice none 0 0, .bool false]) (by first | exact bk_second w _ _ _ _ | exact (bk_second w _ _ _ _).drew : Bk _ (w.heap.size + 1) 30 _) hb1 (by simp)
       obtain ⟨y0, y1, y2, z0, z1, z2⟩ := kk1.three
       have Hb1 := Lib.hid hb1
       clear hb1))
  all_goals first
  | (refine fin3 kk2 fun F hF hgF x0 x1 x2 => ?_
     refine bodyPost_ret (by simp [results, Try.results82, go_sem, x0, x1, x2]; try rfl) rfl ?_
     refine ro_fin (by omega) Hx2.out q2 kk2 hF hgF ?_ ?_)
  | (refine fin3 kk1 fun F hF hgF x0 x1 x2 => ?_
     refine bodyPost_ret (by simp [results, Try.results82, go_sem, x0, x1, x2]; try rfl) rfl ?_
     refine ro_fin (by omega) Hx1.out q1 kk1 hF hgF ?_ ?_)
  | (go_returns
     refine ro_same H.out (by go_grown) ?_ ?_)
  all_goals go_light
  all_goals try simp only [beq_iff_eq, beq_eq_false_iff_ne, ne_eq] at *
  all_goals unfold rPlain
  all_goals try dsimp only
  all_goals (repeat (first | rw [if_pos (by first | decide | omega | (simp; done) | (simp; omega))] | rw [if_neg (by first | decide | omega | (simp; done) | (simp; omega))]))
  all_goals first | rfl | (simp; done) | (rw [Bool.eq_iff_iff]; simp; omega) | (have e := Hst.out; generalize st.tail = r at *; subst e; rfl)

set_option maxHeartbeats 2000000 in
theorem pl_67 (S : List UInt8) (A : Option Addr) (n k : Nat) (st : Stk) (f : Bool) (b : UInt8) (at_ : Int) (w : World) (h : Rs w S A n k st) (hd : UInt8 × Int) (hst : st = hd :: st.tail) (hl : st.length ≤ 1000) :
    Calls Try.prog 82 #[.agg #[.string ⟨S.toArray⟩, .slice A n k, .bool f], .int .u8 ((67 : UInt8).toNat : Int), .int .u8 ((b : UInt8).toNat : Int), .int .i64 at_] w (Ro w (rPlain st f 67 b at_).1 (rPlain st f 67 b at_).2) := by
  have hne : st ≠ [] := by rw [hst]; simp
  have H := Lib.hid h
  have Hst := Lib.hid hst
  clear h hst
  go_enter Try.func82, Try.ntmps82
  go_wp2_with (first
    | (go_at_call 104; refine (program_r S A n k st f 67 b at_ _ (H.out.next (by go_grown)) hne hl).mono ?_
       rintro e w1 ⟨S1, A1, n1, k1, rfl, hx1, hb1⟩
       have Hx1 := Lib.hid hx1
       clear hx1
       have hz1 := hb1.size
       have hz1 : w.heap.size + 1 < w1.heap.size := by simp at hz1; omega
       have q1 : Below w.heap.size w w1 := below_next (by go_grown) hb1
       have kk1 := Bk.below (cs := #[.string ⟨#[]⟩, .slice none 0 0, .bool false]) (by first | exact bk_second w _ _ _ _ | exact (bk_second w _ _ _ _).drew : Bk _ (w.heap.size + 1) 30 _) hb1 (by simp)
       obtain ⟨y0, y1, y2, z0, z1, z2⟩ := kk1.three
       have Hb1 := Lib.hid hb1
       clear hb1))
  all_goals first
  | (refine fin3 kk2 fun F hF hgF x0 x1 x2 => ?_
     refine bodyPost_ret (by simp [results, Try.results82, go_sem, x0, x1, x2]; try rfl) rfl ?_
     refine ro_fin (by omega) Hx2.out q2 kk2 hF hgF ?_ ?_)
  | (refine fin3 kk1 fun F hF hgF x0 x1 x2 => ?_
     refine bodyPost_ret (by simp [results, Try.results82, go_sem, x0, x1, x2]; try rfl) rfl ?_
     refine ro_fin (by omega) Hx1.out q1 kk1 hF hgF ?_ ?_)
  | (go_returns
     refine ro_same H.out (by go_grown) ?_ ?_)
  all_goals go_light
  all_goals try simp only [beq_iff_eq, beq_eq_false_iff_ne, ne_eq] at *
  all_goals unfold rPlain
  all_goals try dsimp only
  all_goals (repeat (first | rw [if_pos (by first | decide | omega | (simp; done) | (simp; omega))] | rw [if_neg (by first | decide | omega | (simp; done) | (simp; omega))]))
  all_goals first | rfl | (simp; done) | (rw [Bool.eq_iff_iff]; simp; omega) | (have e := Hst.out; generalize st.tail = r at *; subst e; rfl)

set_option maxHeartbeats 2000000 in
theorem pl_80 (S : List UInt8) (A : Option Addr) (n k : Nat) (st : Stk) (f : Bool) (b : UInt8) (at_ : Int) (w : World) (h : Rs w S A n k st) (hd : UInt8 × Int) (hst : st = hd :: st.tail) (hl : st.length ≤ 1000) :
    Calls Try.prog 82 #[.agg #[.string ⟨S.toArray⟩, .slice A n k, .bool f], .int .u8 ((80 : UInt8).toNat : Int), .int .u8 ((b : UInt8).toNat : Int), .int .i64 at_] w (Ro w (rPlain st f 80 b at_).1 (rPlain st f 80 b at_).2) := by
  have hne : st ≠ [] := by rw [hst]; simp
  have H := Lib.hid h
  have Hst := Lib.hid hst
  clear h hst
  go_enter Try.func82, Try.ntmps82
  go_wp2_with (first
    | (go_at_call 104; refine (program_r S A n k st f 80 b at_ _ (H.out.next (by go_grown)) hne hl).mono ?_
       rintro e w1 ⟨S1, A1, n1, k1, rfl, hx1, hb1⟩
       have Hx1 := Lib.hid hx1
       clear hx1
       have hz1 := hb1.size
       have hz1 : w.heap.size + 1 < w1.heap.size := by simp at hz1; omega
       have q1 : Below w.heap.size w w1 := below_next (by go_grown) hb1
       have kk1 := Bk.below (cs := #[.string ⟨#[]⟩, .slice none 0 0, .bool false]) (by first | exact bk_second w _ _ _ _ | exact (bk_second w _ _ _ _).drew : Bk _ (w.heap.size + 1) 30 _) hb1 (by simp)
       obtain ⟨y0, y1, y2, z0, z1, z2⟩ := kk1.three
       have Hb1 := Lib.hid hb1
       clear hb1))
  all_goals first
  | (refine fin3 kk2 fun F hF hgF x0 x1 x2 => ?_
     refine bodyPost_ret (by simp [results, Try.results82, go_sem, x0, x1, x2]; try rfl) rfl ?_
     refine ro_fin (by omega) Hx2.out q2 kk2 hF hgF ?_ ?_)
  | (refine fin3 kk1 fun F hF hgF x0 x1 x2 => ?_
     refine bodyPost_ret (by simp [results, Try.results82, go_sem, x0, x1, x2]; try rfl) rfl ?_
     refine ro_fin (by omega) Hx1.out q1 kk1 hF hgF ?_ ?_)
  | (go_returns
     refine ro_same H.out (by go_grown) ?_ ?_)
  all_goals go_light
  all_goals try simp only [beq_iff_eq, beq_eq_false_iff_ne, ne_eq] at *
  all_goals unfold rPlain
  all_goals try dsimp only
  all_goals (repeat (first | rw [if_pos (by first | decide | omega | (simp; done) | (simp; omega))] | rw [if_neg (by first | decide | omega | (simp; done) | (simp; omega))]))
  all_goals first | rfl | (simp; done) | (rw [Bool.eq_iff_iff]; simp; omega) | (have e := Hst.out; generalize st.tail = r at *; subst e; rfl)

set_option maxHeartbeats 2000000 in
theorem pl_88a (S : List UInt8) (A : Option Addr) (n k : Nat) (st : Stk) (f : Bool) (at_ : Int) (w : World) (h : Rs w S A n k st) (hd : UInt8 × Int) (hst : st = hd :: st.tail) (hl : st.length ≤ 1000) :
    Calls Try.prog 82 #[.agg #[.string ⟨S.toArray⟩, .slice A n k, .bool f], .int .u8 ((88 : UInt8).toNat : Int), .int .u8 ((10 : UInt8).toNat : Int), .int .i64 at_] w (Ro w (rPlain st f 88 10 at_).1 (rPlain st f 88 10 at_).2) := by
  have hne : st ≠ [] := by rw [hst]; simp
  have H := Lib.hid h
  have Hst := Lib.hid hst
  clear h hst
  go_enter Try.func82, Try.ntmps82
  go_wp2_with (first
    | (go_at_call 81; refine (pop_r S A n k st _ _ (H.out.next (by go_grown)) hne hl).mono ?_
       rintro e w1 ⟨S1, A1, n1, k1, rfl, hx1, hb1⟩
       have Hx1 := Lib.hid hx1
       clear hx1
       have hz1 := hb1.size
       have hz1 : w.heap.size + 1 < w1.heap.size := by simp at hz1; omega
       have q1 : Below w.heap.size w w1 := below_next (by go_grown) hb1
       have kk1 := Bk.below (cs := #[.string ⟨#[]⟩, .slice none 0 0, .bool false]) (by first | exact bk_second w _ _ _ _ | exact (bk_second w _ _ _ _).drew : Bk _ (w.heap.size + 1) 30 _) hb1 (by simp)
       obtain ⟨y0, y1, y2, z0, z1, z2⟩ := kk1.three
       have Hb1 := Lib.hid hb1
       clear hb1
       have bb1 := Bk.below (cs := #[.string ⟨S.toArray⟩, .slice A n k, .bool f]) (by exact bk_first w _ _ _ _ : Bk _ w.heap.size 30 _) Hb1.out (by simp; omega)
       obtain ⟨v0, v1, v2, g0, g1, g2⟩ := bb1.three))
  all_goals (refine fin33 bb1 kk1 (by omega) fun F0 F hB0 hg0 hF hgF x0 x1 x2 => ?_
             refine bodyPost_ret (by simp [results, Try.results82, go_sem, x0, x1, x2]; try rfl) rfl ?_
             refine ro_fin (by omega) ⟨Hx1.out.1, Hx1.out.2.1, Hx1.out.2.2.keep hg0 (bb1.row (by decide))⟩ (q1.grown hg0 q1.size (by intro j hj; injection hj with hj; omega)) hB0 hF hgF ?_ ?_)
  all_goals go_light
  all_goals try simp only [beq_iff_eq, beq_eq_false_iff_ne, ne_eq] at *
  all_goals unfold rPlain
  all_goals try dsimp only
  all_goals (repeat (first | rw [if_pos (by first | decide | omega | (simp; done) | (simp; omega))] | rw [if_neg (by first | decide | omega | (simp; done) | (simp; omega))]))
  all_goals first | rfl | (simp; done) | (rw [Bool.eq_iff_iff]; simp; omega) | (have e := Hst.out; generalize st.tail = r at *; subst e; rfl)

set_option maxHeartbeats 2000000 in
theorem pl_88b (S : List UInt8) (A : Option Addr) (n k : Nat) (st : Stk) (f : Bool) (b : UInt8) (at_ : Int) (w : World) (h : Rs w S A n k st) (hd : UInt8 × Int) (hst : st = hd :: st.tail) (hl : st.length ≤ 1000) (hb10 : ((b.toNat : Int) == 10) = false) :
    Calls Try.prog 82 #[.agg #[.string ⟨S.toArray⟩, .slice A n k, .bool f], .int .u8 ((88 : UInt8).toNat : Int), .int .u8 ((b : UInt8).toNat : Int), .int .i64 at_] w (Ro w (rPlain st f 88 b at_).1 (rPlain st f 88 b at_).2) := by
  have hne : st ≠ [] := by rw [hst]; simp
  have H := Lib.hid h
  have Hst := Lib.hid hst
  clear h hst
  go_enter Try.func82, Try.ntmps82
  go_wp2_with (first
    | (go_at_call 81; refine (pop_r S A n k st _ _ (H.out.next (by go_grown)) hne hl).mono ?_
       rintro e w1 ⟨S1, A1, n1, k1, rfl, hx1, hb1⟩
       have Hx1 := Lib.hid hx1
       clear hx1
       have hz1 := hb1.size
       have hz1 : w.heap.size + 1 < w1.heap.size := by simp at hz1; omega
       have q1 : Below w.heap.size w w1 := below_next (by go_grown) hb1
       have kk1 := Bk.below (cs := #[.string ⟨#[]⟩, .slice none 0 0, .bool false]) (by first | exact bk_second w _ _ _ _ | exact (bk_second w _ _ _ _).drew : Bk _ (w.heap.size + 1) 30 _) hb1 (by simp)
       obtain ⟨y0, y1, y2, z0, z1, z2⟩ := kk1.three
       have Hb1 := Lib.hid hb1
       clear hb1
       have bb1 := Bk.below (cs := #[.string ⟨S.toArray⟩, .slice A n k, .bool f]) (by exact bk_first w _ _ _ _ : Bk _ w.heap.size 30 _) Hb1.out (by simp; omega)
       obtain ⟨v0, v1, v2, g0, g1, g2⟩ := bb1.three)
    | (go_at_call 79; refine call3 bb1 fun F hF hgF => ?_
       refine (mark_r S1 A1 n1 k1 _ _ _ _ ⟨Hx1.out.1, Hx1.out.2.1, Hx1.out.2.2.keep hgF (bb1.row (by decide))⟩).mono ?_
       rintro e w2 ⟨S2, A2, n2, k2, rfl, hx2, hb2⟩
       have Hx2 := Lib.hid hx2
       clear hx2
       have q2 : Below w.heap.size w w2 := (q1.grown hgF q1.size (by intro j hj; injection hj with hj; omega)).trans (hb2.mono (Nat.le_trans q1.size hgF.size))
       have kk2 := (kk1.grown hgF (by simp)).below hb2 (Nat.lt_of_lt_of_le kk1.lt hgF.size)
       have bb2 := hF.below hb2 hF.lt
       obtain ⟨y0, y1, y2, z0, z1, z2⟩ := kk2.three
       obtain ⟨v0, v1, v2, g0, g1, g2⟩ := bb2.three))
  all_goals (refine fin33 bb2 kk2 (by omega) fun F0 F hB0 hg0 hF hgF x0 x1 x2 => ?_
             refine bodyPost_ret (by simp [results, Try.results82, go_sem, x0, x1, x2]; try rfl) rfl ?_
             refine ro_fin (by omega) ⟨Hx2.out.1, Hx2.out.2.1, Hx2.out.2.2.keep hg0 (bb2.row (by decide))⟩ (q2.grown hg0 q2.size (by intro j hj; injection hj with hj; omega)) hB0 hF hgF ?_ ?_)
  all_goals go_light
  all_goals try simp only [beq_iff_eq, beq_eq_false_iff_ne, ne_eq] at *
  all_goals unfold rPlain
  all_goals try dsimp only
  all_goals (repeat (first | rw [if_pos (by first | decide | omega | (simp; done) | (simp; omega))] | rw [if_neg (by first | decide | omega | (simp; done) | (simp; omega))]))
  all_goals first | rfl | (simp; done) | (rw [Bool.eq_iff_iff]; simp; omega) | (have e := Hst.out; generalize st.tail = r at *; subst e; rfl)

set_option maxHeartbeats 2000000 in
theorem pl_83a (S : List UInt8) (A : Option Addr) (n k : Nat) (st : Stk) (f : Bool) (at_ : Int) (w : World) (h : Rs w S A n k st) (hd : UInt8 × Int) (hst : st = hd :: st.tail) (hl : st.length ≤ 1000) :
    Calls Try.prog 82 #[.agg #[.string ⟨S.toArray⟩, .slice A n k, .bool f], .int .u8 ((83 : UInt8).toNat : Int), .int .u8 ((39 : UInt8).toNat : Int), .int .i64 at_] w (Ro w (rPlain st f 83 39 at_).1 (rPlain st f 83 39 at_).2) := by
  have hne : st ≠ [] := by rw [hst]; simp
  have H := Lib.hid h
  have Hst := Lib.hid hst
  clear h hst
  go_enter Try.func82, Try.ntmps82
  go_wp2_with (first
    | (go_at_call 81; refine (pop_r S A n k st _ _ (H.out.next (by go_grown)) hne hl).mono ?_
       rintro e w1 ⟨S1, A1, n1, k1, rfl, hx1, hb1⟩
       have Hx1 := Lib.hid hx1
       clear hx1
       have hz1 := hb1.size
       have hz1 : w.heap.size + 1 < w1.heap.size := by simp at hz1; omega
       have q1 : Below w.heap.size w w1 := below_next (by go_grown) hb1
       have kk1 := Bk.below (cs := #[.string ⟨#[]⟩, .slice none 0 0, .bool false]) (by first | exact bk_second w _ _ _ _ | exact (bk_second w _ _ _ _).drew : Bk _ (w.heap.size + 1) 30 _) hb1 (by simp)
       obtain ⟨y0, y1, y2, z0, z1, z2⟩ := kk1.three
       have Hb1 := Lib.hid hb1
       clear hb1))
  all_goals first
  | (refine fin3 kk2 fun F hF hgF x0 x1 x2 => ?_
     refine bodyPost_ret (by simp [results, Try.results82, go_sem, x0, x1, x2]; try rfl) rfl ?_
     refine ro_fin (by omega) Hx2.out q2 kk2 hF hgF ?_ ?_)
  | (refine fin3 kk1 fun F hF hgF x0 x1 x2 => ?_
     refine bodyPost_ret (by simp [results, Try.results82, go_sem, x0, x1, x2]; try rfl) rfl ?_
     refine ro_fin (by omega) Hx1.out q1 kk1 hF hgF ?_ ?_)
  | (go_returns
     refine ro_same H.out (by go_grown) ?_ ?_)
  all_goals go_light
  all_goals try simp only [beq_iff_eq, beq_eq_false_iff_ne, ne_eq] at *
  all_goals unfold rPlain
  all_goals try dsimp only
  all_goals (repeat (first | rw [if_pos (by first | decide | omega | (simp; done) | (simp; omega))] | rw [if_neg (by first | decide | omega | (simp; done) | (simp; omega))]))
  all_goals first | rfl | (simp; done) | (rw [Bool.eq_iff_iff]; simp; omega) | (have e := Hst.out; generalize st.tail = r at *; subst e; rfl)

set_option maxHeartbeats 2000000 in
theorem pl_83b (S : List UInt8) (A : Option Addr) (n k : Nat) (st : Stk) (f : Bool) (b : UInt8) (at_ : Int) (w : World) (h : Rs w S A n k st) (hd : UInt8 × Int) (hst : st = hd :: st.tail) (hl : st.length ≤ 1000) (hb39 : ((b.toNat : Int) == 39) = false) :
    Calls Try.prog 82 #[.agg #[.string ⟨S.toArray⟩, .slice A n k, .bool f], .int .u8 ((83 : UInt8).toNat : Int), .int .u8 ((b : UInt8).toNat : Int), .int .i64 at_] w (Ro w (rPlain st f 83 b at_).1 (rPlain st f 83 b at_).2) := by
  have hne : st ≠ [] := by rw [hst]; simp
  have H := Lib.hid h
  have Hst := Lib.hid hst
  clear h hst
  go_enter Try.func82, Try.ntmps82
  go_wp2_with (first
    | (go_at_call 81; refine (pop_r S A n k st _ _ (H.out.next (by go_grown)) hne hl).mono ?_
       rintro e w1 ⟨S1, A1, n1, k1, rfl, hx1, hb1⟩
       have Hx1 := Lib.hid hx1
       clear hx1
       have hz1 := hb1.size
       have hz1 : w.heap.size + 1 < w1.heap.size := by simp at hz1; omega
       have q1 : Below w.heap.size w w1 := below_next (by go_grown) hb1
       have kk1 := Bk.below (cs := #[.string ⟨#[]⟩, .slice none 0 0, .bool false]) (by first | exact bk_second w _ _ _ _ | exact (bk_second w _ _ _ _).drew : Bk _ (w.heap.size + 1) 30 _) hb1 (by simp)
       obtain ⟨y0, y1, y2, z0, z1, z2⟩ := kk1.three
       have Hb1 := Lib.hid hb1
       clear hb1))
  all_goals first
  | (refine fin3 kk2 fun F hF hgF x0 x1 x2 => ?_
     refine bodyPost_ret (by simp [results, Try.results82, go_sem, x0, x1, x2]; try rfl) rfl ?_
     refine ro_fin (by omega) Hx2.out q2 kk2 hF hgF ?_ ?_)
  | (refine fin3 kk1 fun F hF hgF x0 x1 x2 => ?_
     refine bodyPost_ret (by simp [results, Try.results82, go_sem, x0, x1, x2]; try rfl) rfl ?_
     refine ro_fin (by omega) Hx1.out q1 kk1 hF hgF ?_ ?_)
  | (go_returns
     refine ro_same H.out (by go_grown) ?_ ?_)
  all_goals go_light
  all_goals try simp only [beq_iff_eq, beq_eq_false_iff_ne, ne_eq] at *
  all_goals unfold rPlain
  all_goals try dsimp only
  all_goals (repeat (first | rw [if_pos (by first | decide | omega | (simp; done) | (simp; omega))] | rw [if_neg (by first | decide | omega | (simp; done) | (simp; omega))]))
  all_goals first | rfl | (simp; done) | (rw [Bool.eq_iff_iff]; simp; omega) | (have e := Hst.out; generalize st.tail = r at *; subst e; rfl)

set_option maxHeartbeats 2000000 in
theorem pl_35a (S : List UInt8) (A : Option Addr) (n k : Nat) (st : Stk) (f : Bool) (at_ : Int) (w : World) (h : Rs w S A n k st) (hd : UInt8 × Int) (hst : st = hd :: st.tail) (hl : st.length ≤ 1000) :
    Calls Try.prog 82 #[.agg #[.string ⟨S.toArray⟩, .slice A n k, .bool f], .int .u8 ((35 : UInt8).toNat : Int), .int .u8 ((10 : UInt8).toNat : Int), .int .i64 at_] w (Ro w (rPlain st f 35 10 at_).1 (rPlain st f 35 10 at_).2) := by
  have hne : st ≠ [] := by rw [hst]; simp
  have H := Lib.hid h
  have Hst := Lib.hid hst
  clear h hst
  go_enter Try.func82, Try.ntmps82
  go_wp2_with (first
    | (go_at_call 81; refine (pop_r S A n k st _ _ (H.out.next (by go_grown)) hne hl).mono ?_
       rintro e w1 ⟨S1, A1, n1, k1, rfl, hx1, hb1⟩
       have Hx1 := Lib.hid hx1
       clear hx1
       have hz1 := hb1.size
       have hz1 : w.heap.size + 1 < w1.heap.size := by simp at hz1; omega
       have q1 : Below w.heap.size w w1 := below_next (by go_grown) hb1
       have kk1 := Bk.below (cs := #[.string ⟨#[]⟩, .slice none 0 0, .bool false]) (by first | exact bk_second w _ _ _ _ | exact (bk_second w _ _ _ _).drew : Bk _ (w.heap.size + 1) 30 _) hb1 (by simp)
       obtain ⟨y0, y1, y2, z0, z1, z2⟩ := kk1.three
       have Hb1 := Lib.hid hb1
       clear hb1)
    | (go_at_call 79; refine (mark_r S1 A1 n1 k1 _ _ _ _ Hx1.out).mono ?_
       rintro e w2 ⟨S2, A2, n2, k2, rfl, hx2, hb2⟩
       have Hx2 := Lib.hid hx2
       clear hx2
       have q2 : Below w.heap.size w w2 := q1.trans (hb2.mono q1.size)
       have kk2 := kk1.below hb2 kk1.lt
       obtain ⟨y0, y1, y2, z0, z1, z2⟩ := kk2.three))
  all_goals first
  | (refine fin3 kk2 fun F hF hgF x0 x1 x2 => ?_
     refine bodyPost_ret (by simp [results, Try.results82, go_sem, x0, x1, x2]; try rfl) rfl ?_
     refine ro_fin (by omega) Hx2.out q2 kk2 hF hgF ?_ ?_)
  | (refine fin3 kk1 fun F hF hgF x0 x1 x2 => ?_
     refine bodyPost_ret (by simp [results, Try.results82, go_sem, x0, x1, x2]; try rfl) rfl ?_
     refine ro_fin (by omega) Hx1.out q1 kk1 hF hgF ?_ ?_)
  | (go_returns
     refine ro_same H.out (by go_grown) ?_ ?_)
  all_goals go_light
  all_goals try simp only [beq_iff_eq, beq_eq_false_iff_ne, ne_eq] at *
  all_goals unfold rPlain
  all_goals try dsimp only
  all_goals (repeat (first | rw [if_pos (by first | decide | omega | (simp; done) | (simp; omega))] | rw [if_neg (by first | decide | omega | (simp; done) | (simp; omega))]))
  all_goals first | rfl | (simp; done) | (rw [Bool.eq_iff_iff]; simp; omega) | (have e := Hst.out; generalize st.tail = r at *; subst e; rfl)

set_option maxHeartbeats 2000000 in
theorem pl_35b (S : List UInt8) (A : Option Addr) (n k : Nat) (st : Stk) (f : Bool) (b : UInt8) (at_ : Int) (w : World) (h : Rs w S A n k st) (hd : UInt8 × Int) (hst : st = hd :: st.tail) (hl : st.length ≤ 1000) (hb10 : ((b.toNat : Int) == 10) = false) :
    Calls Try.prog 82 #[.agg #[.string ⟨S.toArray⟩, .slice A n k, .bool f], .int .u8 ((35 : UInt8).toNat : Int), .int .u8 ((b : UInt8).toNat : Int), .int .i64 at_] w (Ro w (rPlain st f 35 b at_).1 (rPlain st f 35 b at_).2) := by
  have hne : st ≠ [] := by rw [hst]; simp
  have H := Lib.hid h
  have Hst := Lib.hid hst
  clear h hst
  go_enter Try.func82, Try.ntmps82
  go_wp2_with (first
    | (go_at_call 81; refine (pop_r S A n k st _ _ (H.out.next (by go_grown)) hne hl).mono ?_
       rintro e w1 ⟨S1, A1, n1, k1, rfl, hx1, hb1⟩
       have Hx1 := Lib.hid hx1
       clear hx1
       have hz1 := hb1.size
       have hz1 : w.heap.size + 1 < w1.heap.size := by simp at hz1; omega
       have q1 : Below w.heap.size w w1 := below_next (by go_grown) hb1
       have kk1 := Bk.below (cs := #[.string ⟨#[]⟩, .slice none 0 0, .bool false]) (by first | exact bk_second w _ _ _ _ | exact (bk_second w _ _ _ _).drew : Bk _ (w.heap.size + 1) 30 _) hb1 (by simp)
       obtain ⟨y0, y1, y2, z0, z1, z2⟩ := kk1.three
       have Hb1 := Lib.hid hb1
       clear hb1))
  all_goals first
  | (refine fin3 kk2 fun F hF hgF x0 x1 x2 => ?_
     refine bodyPost_ret (by simp [results, Try.results82, go_sem, x0, x1, x2]; try rfl) rfl ?_
     refine ro_fin (by omega) Hx2.out q2 kk2 hF hgF ?_ ?_)
  | (refine fin3 kk1 fun F hF hgF x0 x1 x2 => ?_
     refine bodyPost_ret (by simp [results, Try.results82, go_sem, x0, x1, x2]; try rfl) rfl ?_
     refine ro_fin (by omega) Hx1.out q1 kk1 hF hgF ?_ ?_)
  | (go_returns
     refine ro_same H.out (by go_grown) ?_ ?_)
  all_goals go_light
  all_goals try simp only [beq_iff_eq, beq_eq_false_iff_ne, ne_eq] at *
  all_goals unfold rPlain
  all_goals try dsimp only
  all_goals (repeat (first | rw [if_pos (by first | decide | omega | (simp; done) | (simp; omega))] | rw [if_neg (by first | decide | omega | (simp; done) | (simp; omega))]))
  all_goals first | rfl | (simp; done) | (rw [Bool.eq_iff_iff]; simp; omega) | (have e := Hst.out; generalize st.tail = r at *; subst e; rfl)

set_option maxHeartbeats 2000000 in
theorem pl_66a (S : List UInt8) (A : Option Addr) (n k : Nat) (st : Stk) (f : Bool) (at_ : Int) (w : World) (h : Rs w S A n k st) (hd : UInt8 × Int) (hst : st = hd :: st.tail) (hl : st.length ≤ 1000) :
    Calls Try.prog 82 #[.agg #[.string ⟨S.toArray⟩, .slice A n k, .bool f], .int .u8 ((66 : UInt8).toNat : Int), .int .u8 ((96 : UInt8).toNat : Int), .int .i64 at_] w (Ro w (rPlain st f 66 96 at_).1 (rPlain st f 66 96 at_).2) := by
  have hne : st ≠ [] := by rw [hst]; simp
  have H := Lib.hid h
  have Hst := Lib.hid hst
  clear h hst
  go_enter Try.func82, Try.ntmps82
  go_wp2_with (first
    | (go_at_call 81; refine (pop_r S A n k st _ _ (H.out.next (by go_grown)) hne hl).mono ?_
       rintro e w1 ⟨S1, A1, n1, k1, rfl, hx1, hb1⟩
       have Hx1 := Lib.hid hx1
       clear hx1
       have hz1 := hb1.size
       have hz1 : w.heap.size + 1 < w1.heap.size := by simp at hz1; omega
       have q1 : Below w.heap.size w w1 := below_next (by go_grown) hb1
       have kk1 := Bk.below (cs := #[.string ⟨#[]⟩, .slice none 0 0, .bool false]) (by first | exact bk_second w _ _ _ _ | exact (bk_second w _ _ _ _).drew : Bk _ (w.heap.size + 1) 30 _) hb1 (by simp)
       obtain ⟨y0, y1, y2, z0, z1, z2⟩ := kk1.three
       have Hb1 := Lib.hid hb1
       clear hb1))
  all_goals first
  | (refine fin3 kk2 fun F hF hgF x0 x1 x2 => ?_
     refine bodyPost_ret (by simp [results, Try.results82, go_sem, x0, x1, x2]; try rfl) rfl ?_
     refine ro_fin (by omega) Hx2.out q2 kk2 hF hgF ?_ ?_)
  | (refine fin3 kk1 fun F hF hgF x0 x1 x2 => ?_
     refine bodyPost_ret (by simp [results, Try.results82, go_sem, x0, x1, x2]; try rfl) rfl ?_
     refine ro_fin (by omega) Hx1.out q1 kk1 hF hgF ?_ ?_)
  | (go_returns
     refine ro_same H.out (by go_grown) ?_ ?_)
  all_goals go_light
  all_goals try simp only [beq_iff_eq, beq_eq_false_iff_ne, ne_eq] at *
  all_goals unfold rPlain
  all_goals try dsimp only
  all_goals (repeat (first | rw [if_pos (by first | decide | omega | (simp; done) | (simp; omega))] | rw [if_neg (by first | decide | omega | (simp; done) | (simp; omega))]))
  all_goals first | rfl | (simp; done) | (rw [Bool.eq_iff_iff]; simp; omega) | (have e := Hst.out; generalize st.tail = r at *; subst e; rfl)

set_option maxHeartbeats 2000000 in
theorem pl_66b (S : List UInt8) (A : Option Addr) (n k : Nat) (st : Stk) (f : Bool) (at_ : Int) (w : World) (h : Rs w S A n k st) (hd : UInt8 × Int) (hst : st = hd :: st.tail) (hl : st.length ≤ 1000) :
    Calls Try.prog 82 #[.agg #[.string ⟨S.toArray⟩, .slice A n k, .bool f], .int .u8 ((66 : UInt8).toNat : Int), .int .u8 ((92 : UInt8).toNat : Int), .int .i64 at_] w (Ro w (rPlain st f 66 92 at_).1 (rPlain st f 66 92 at_).2) := by
  have hne : st ≠ [] := by rw [hst]; simp
  have H := Lib.hid h
  have Hst := Lib.hid hst
  clear h hst
  go_enter Try.func82, Try.ntmps82
  go_wp2_with (first
    | (go_at_call 105; refine (push_r S A n k st _ at_ _ _ (H.out.next (by go_grown)) hl).mono ?_
       rintro e w1 ⟨S1, A1, n1, k1, rfl, hx1, hb1⟩
       have Hx1 := Lib.hid hx1
       clear hx1
       have hz1 := hb1.size
       have hz1 : w.heap.size + 1 < w1.heap.size := by simp at hz1; omega
       have q1 : Below w.heap.size w w1 := below_next (by go_grown) hb1
       have kk1 := Bk.below (cs := #[.string ⟨#[]⟩, .slice none 0 0, .bool false]) (by first | exact bk_second w _ _ _ _ | exact (bk_second w _ _ _ _).drew : Bk _ (w.heap.size + 1) 30 _) hb1 (by simp)
       obtain ⟨y0, y1, y2, z0, z1, z2⟩ := kk1.three
       have Hb1 := Lib.hid hb1
       clear hb1))
  all_goals first
  | (refine fin3 kk2 fun F hF hgF x0 x1 x2 => ?_
     refine bodyPost_ret (by simp [results, Try.results82, go_sem, x0, x1, x2]; try rfl) rfl ?_
     refine ro_fin (by omega) Hx2.out q2 kk2 hF hgF ?_ ?_)
  | (refine fin3 kk1 fun F hF hgF x0 x1 x2 => ?_
     refine bodyPost_ret (by simp [results, Try.results82, go_sem, x0, x1, x2]; try rfl) rfl ?_
     refine ro_fin (by omega) Hx1.out q1 kk1 hF hgF ?_ ?_)
  | (go_returns
     refine ro_same H.out (by go_grown) ?_ ?_)
  all_goals go_light
  all_goals try simp only [beq_iff_eq, beq_eq_false_iff_ne, ne_eq] at *
  all_goals unfold rPlain
  all_goals try dsimp only
  all_goals (repeat (first | rw [if_pos (by first | decide | omega | (simp; done) | (simp; omega))] | rw [if_neg (by first | decide | omega | (simp; done) | (simp; omega))]))
  all_goals first | rfl | (simp; done) | (rw [Bool.eq_iff_iff]; simp; omega) | (have e := Hst.out; generalize st.tail = r at *; subst e; rfl)

set_option maxHeartbeats 2000000 in
theorem pl_66c (S : List UInt8) (A : Option Addr) (n k : Nat) (st : Stk) (f : Bool) (b : UInt8) (at_ : Int) (w : World) (h : Rs w S A n k st) (hd : UInt8 × Int) (hst : st = hd :: st.tail) (hl : st.length ≤ 1000) (hb96 : ((b.toNat : Int) == 96) = false) (hb92 : ((b.toNat : Int) == 92) = false) :
    Calls Try.prog 82 #[.agg #[.string ⟨S.toArray⟩, .slice A n k, .bool f], .int .u8 ((66 : UInt8).toNat : Int), .int .u8 ((b : UInt8).toNat : Int), .int .i64 at_] w (Ro w (rPlain st f 66 b at_).1 (rPlain st f 66 b at_).2) := by
  have hne : st ≠ [] := by rw [hst]; simp
  have H := Lib.hid h
  have Hst := Lib.hid hst
  clear h hst
  go_enter Try.func82, Try.ntmps82
  go_wp2_with (first
    | (go_at_call 81; refine (pop_r S A n k st _ _ (H.out.next (by go_grown)) hne hl).mono ?_
       rintro e w1 ⟨S1, A1, n1, k1, rfl, hx1, hb1⟩
       have Hx1 := Lib.hid hx1
       clear hx1
       have hz1 := hb1.size
       have hz1 : w.heap.size + 1 < w1.heap.size := by simp at hz1; omega
       have q1 : Below w.heap.size w w1 := below_next (by go_grown) hb1
       have kk1 := Bk.below (cs := #[.string ⟨#[]⟩, .slice none 0 0, .bool false]) (by first | exact bk_second w _ _ _ _ | exact (bk_second w _ _ _ _).drew : Bk _ (w.heap.size + 1) 30 _) hb1 (by simp)
       obtain ⟨y0, y1, y2, z0, z1, z2⟩ := kk1.three
       have Hb1 := Lib.hid hb1
       clear hb1))
  all_goals first
  | (refine fin3 kk2 fun F hF hgF x0 x1 x2 => ?_
     refine bodyPost_ret (by simp [results, Try.results82, go_sem, x0, x1, x2]; try rfl) rfl ?_
     refine ro_fin (by omega) Hx2.out q2 kk2 hF hgF ?_ ?_)
  | (refine fin3 kk1 fun F hF hgF x0 x1 x2 => ?_
     refine bodyPost_ret (by simp [results, Try.results82, go_sem, x0, x1, x2]; try rfl) rfl ?_
     refine ro_fin (by omega) Hx1.out q1 kk1 hF hgF ?_ ?_)
  | (go_returns
     refine ro_same H.out (by go_grown) ?_ ?_)
  all_goals go_light
  all_goals try simp only [beq_iff_eq, beq_eq_false_iff_ne, ne_eq] at *
  all_goals unfold rPlain
  all_goals try dsimp only
  all_goals (repeat (first | rw [if_pos (by first | decide | omega | (simp; done) | (simp; omega))] | rw [if_neg (by first | decide | omega | (simp; done) | (simp; omega))]))
  all_goals first | rfl | (simp; done) | (rw [Bool.eq_iff_iff]; simp; omega) | (have e := Hst.out; generalize st.tail = r at *; subst e; rfl)
end Go.Proofs.Ytjkiapgboljabaa
