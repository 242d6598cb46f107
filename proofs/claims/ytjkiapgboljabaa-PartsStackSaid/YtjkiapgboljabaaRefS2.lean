/- The reference's step (quillwortref06.Step), behind a dollar, an opened substitution, a shut one. -/
import Derived.Test.YtjkiapgboljabaaRefS1
namespace Go.Proofs.Ytjkiapgboljabaa
open Go.RowKit
set_option linter.unusedVariables false
set_option linter.unusedSimpArgs false
set_option maxRecDepth 100000
theorem rs_snd {w : World} {S : List UInt8} {A : Option Addr} {n k m : Nat} {c d : UInt8} {p q : Int} {r : Stk} (h : Rs w S A n k ((c, p) :: (d, q) :: r)) (hm : r.length = m) :
    ∃ hlt : m < (ByteArray.mk S.toArray).size, (ByteArray.mk S.toArray)[m]'hlt = d := by
  have h1 := h.1
  rw [rS_cons, rS_cons] at h1
  subst h1 hm
  refine ⟨by show r.length < (rS r ++ [d] ++ [c]).length; simp [rS_len], ?_⟩
  rw [ba_get, List.getElem_append_left (by simp [rS_len]), List.getElem_append_right (by simp [rS_len])]
  simp [rS_len]
set_option maxHeartbeats 2000000 in
theorem st_76_123a (S : List UInt8) (A : Option Addr) (n k : Nat) (f : Bool) (at_ p : Int) (w : World) (r2 : Stk) (q : Int) (hl : r2.length ≤ 997)  (h : Rs w S A n k ((76, p) :: (68, q) :: r2)) :
    Calls Try.prog 50 #[.agg #[.string ⟨S.toArray⟩, .slice A n k, .bool f], .int .u8 ((123 : UInt8).toNat : Int), .int .i64 at_] w (Ro w (rStep ((76, p) :: (68, q) :: r2) f 123 at_).1 (rStep ((76, p) :: (68, q) :: r2) f 123 at_).2) := by
  obtain ⟨j, hj⟩ : ∃ j, r2.length = j := ⟨_, rfl⟩
  obtain ⟨hS, hlt, hg⟩ := rs_top (m := j + 1) h (by simp [hj])
  obtain ⟨hlt0, hg0⟩ := rs_snd h hj
  have hi : ((j : Int) + 1) < (j : Int) + 1 + 1 := by omega
  have hmb : j ≤ 998 := by omega
  have HJ := Lib.hid hj
  clear hj
  have H := Lib.hid h
  clear h
  go_enter Try.func50, Try.ntmps50
  go_wp2_with (first
    | (go_at_call 80; refine (turn_r S A n k ((68, q) :: r2) 73 _ p _ _ (H.out.next (by go_grown)) (by simp; omega)).mono ?_
       rintro e w1 ⟨S1, A1, n1, k1, rfl, hx1, hb1⟩
       have Hx1 := Lib.hid hx1
       clear hx1
       have hz1 := hb1.size
       have hz1 : w.heap.size + 1 < w1.heap.size := by simp at hz1; omega
       have q1 : Below w.heap.size w w1 := below_next (by go_grown) hb1
       have kk1 := Bk.below (cs := #[.string ⟨#[]⟩, .slice none 0 0, .bool false]) (by first | exact bk_second w _ _ _ _ | exact (bk_second w _ _ _ _).drew : Bk _ (w.heap.size + 1) 30 _) hb1 (by simp)
       obtain ⟨y0, y1, y2, z0, z1, z2⟩ := kk1.three
       have Hb1 := Lib.hid hb1
       clear hb1
       have bb1 := Bk.below (cs := #[.string ⟨S.toArray⟩, .slice A n k, .bool f]) (by exact bk_first w _ _ _ _ : Bk _ w.heap.size 30 _) Hb1.out (by simp; omega)
       obtain ⟨v0, v1, v2, g0, g1, g2⟩ := bb1.three))
  all_goals first
  | (refine fin3 kk2 fun F hF hgF x0 x1 x2 => ?_
     refine bodyPost_ret (by simp [results, Try.results50, go_sem, x0, x1, x2]; try rfl) rfl ?_
     refine ro_fin (by omega) Hx2.out q2 kk2 hF hgF ?_ ?_)
  | (refine fin3 kk1 fun F hF hgF x0 x1 x2 => ?_
     refine bodyPost_ret (by simp [results, Try.results50, go_sem, x0, x1, x2]; try rfl) rfl ?_
     refine ro_fin (by omega) Hx1.out q1 kk1 hF hgF ?_ ?_)
  | (go_returns
     refine ro_same H.out (by go_grown) ?_ ?_)
  all_goals go_light
  all_goals try simp only [beq_iff_eq, beq_eq_false_iff_ne, ne_eq] at *
  all_goals unfold rStep
  all_goals try dsimp only
  all_goals (repeat (first | rw [if_pos (by first | decide | omega | (simp; done) | (simp; omega))] | rw [if_neg (by first | decide | omega | (simp; done) | (simp; omega))]))
  all_goals first | rfl | (simp; done) | (rw [Bool.eq_iff_iff]; simp; omega) | (have e := Hst.out; generalize st.tail = r at *; subst e; rfl)

set_option maxHeartbeats 2000000 in
theorem st_76_123b (S : List UInt8) (A : Option Addr) (n k : Nat) (f : Bool) (at_ p : Int) (w : World) (r2 : Stk) (q : Int) (hl : r2.length ≤ 997)  (h : Rs w S A n k ((76, p) :: (73, q) :: r2)) :
    Calls Try.prog 50 #[.agg #[.string ⟨S.toArray⟩, .slice A n k, .bool f], .int .u8 ((123 : UInt8).toNat : Int), .int .i64 at_] w (Ro w (rStep ((76, p) :: (73, q) :: r2) f 123 at_).1 (rStep ((76, p) :: (73, q) :: r2) f 123 at_).2) := by
  obtain ⟨j, hj⟩ : ∃ j, r2.length = j := ⟨_, rfl⟩
  obtain ⟨hS, hlt, hg⟩ := rs_top (m := j + 1) h (by simp [hj])
  obtain ⟨hlt0, hg0⟩ := rs_snd h hj
  have hi : ((j : Int) + 1) < (j : Int) + 1 + 1 := by omega
  have hmb : j ≤ 998 := by omega
  have HJ := Lib.hid hj
  clear hj
  have H := Lib.hid h
  clear h
  go_enter Try.func50, Try.ntmps50
  go_wp2_with (first
    | (go_at_call 80; refine (turn_r S A n k ((73, q) :: r2) 73 _ p _ _ (H.out.next (by go_grown)) (by simp; omega)).mono ?_
       rintro e w1 ⟨S1, A1, n1, k1, rfl, hx1, hb1⟩
       have Hx1 := Lib.hid hx1
       clear hx1
       have hz1 := hb1.size
       have hz1 : w.heap.size + 1 < w1.heap.size := by simp at hz1; omega
       have q1 : Below w.heap.size w w1 := below_next (by go_grown) hb1
       have kk1 := Bk.below (cs := #[.string ⟨#[]⟩, .slice none 0 0, .bool false]) (by first | exact bk_second w _ _ _ _ | exact (bk_second w _ _ _ _).drew : Bk _ (w.heap.size + 1) 30 _) hb1 (by simp)
       obtain ⟨y0, y1, y2, z0, z1, z2⟩ := kk1.three
       have Hb1 := Lib.hid hb1
       clear hb1
       have bb1 := Bk.below (cs := #[.string ⟨S.toArray⟩, .slice A n k, .bool f]) (by exact bk_first w _ _ _ _ : Bk _ w.heap.size 30 _) Hb1.out (by simp; omega)
       obtain ⟨v0, v1, v2, g0, g1, g2⟩ := bb1.three))
  all_goals first
  | (refine fin3 kk2 fun F hF hgF x0 x1 x2 => ?_
     refine bodyPost_ret (by simp [results, Try.results50, go_sem, x0, x1, x2]; try rfl) rfl ?_
     refine ro_fin (by omega) Hx2.out q2 kk2 hF hgF ?_ ?_)
  | (refine fin3 kk1 fun F hF hgF x0 x1 x2 => ?_
     refine bodyPost_ret (by simp [results, Try.results50, go_sem, x0, x1, x2]; try rfl) rfl ?_
     refine ro_fin (by omega) Hx1.out q1 kk1 hF hgF ?_ ?_)
  | (go_returns
     refine ro_same H.out (by go_grown) ?_ ?_)
  all_goals go_light
  all_goals try simp only [beq_iff_eq, beq_eq_false_iff_ne, ne_eq] at *
  all_goals unfold rStep
  all_goals try dsimp only
  all_goals (repeat (first | rw [if_pos (by first | decide | omega | (simp; done) | (simp; omega))] | rw [if_neg (by first | decide | omega | (simp; done) | (simp; omega))]))
  all_goals first | rfl | (simp; done) | (rw [Bool.eq_iff_iff]; simp; omega) | (have e := Hst.out; generalize st.tail = r at *; subst e; rfl)

set_option maxHeartbeats 2000000 in
theorem st_76_123c (S : List UInt8) (A : Option Addr) (n k : Nat) (f : Bool) (at_ p : Int) (w : World) (r2 : Stk) (q : Int) (hl : r2.length ≤ 997) (d : UInt8) (hd68 : ((d.toNat : Int) == 68) = false) (hd73 : ((d.toNat : Int) == 73) = false)  (h : Rs w S A n k ((76, p) :: (d, q) :: r2)) :
    Calls Try.prog 50 #[.agg #[.string ⟨S.toArray⟩, .slice A n k, .bool f], .int .u8 ((123 : UInt8).toNat : Int), .int .i64 at_] w (Ro w (rStep ((76, p) :: (d, q) :: r2) f 123 at_).1 (rStep ((76, p) :: (d, q) :: r2) f 123 at_).2) := by
  obtain ⟨j, hj⟩ : ∃ j, r2.length = j := ⟨_, rfl⟩
  obtain ⟨hS, hlt, hg⟩ := rs_top (m := j + 1) h (by simp [hj])
  obtain ⟨hlt0, hg0⟩ := rs_snd h hj
  have hi : ((j : Int) + 1) < (j : Int) + 1 + 1 := by omega
  have hmb : j ≤ 998 := by omega
  have HJ := Lib.hid hj
  clear hj
  have H := Lib.hid h
  clear h
  go_enter Try.func50, Try.ntmps50
  go_wp2_with (first
    | (go_at_call 80; refine (turn_r S A n k ((d, q) :: r2) 86 _ p _ _ (H.out.next (by go_grown)) (by simp; omega)).mono ?_
       rintro e w1 ⟨S1, A1, n1, k1, rfl, hx1, hb1⟩
       have Hx1 := Lib.hid hx1
       clear hx1
       have hz1 := hb1.size
       have hz1 : w.heap.size + 1 < w1.heap.size := by simp at hz1; omega
       have q1 : Below w.heap.size w w1 := below_next (by go_grown) hb1
       have kk1 := Bk.below (cs := #[.string ⟨#[]⟩, .slice none 0 0, .bool false]) (by first | exact bk_second w _ _ _ _ | exact (bk_second w _ _ _ _).drew : Bk _ (w.heap.size + 1) 30 _) hb1 (by simp)
       obtain ⟨y0, y1, y2, z0, z1, z2⟩ := kk1.three
       have Hb1 := Lib.hid hb1
       clear hb1
       have bb1 := Bk.below (cs := #[.string ⟨S.toArray⟩, .slice A n k, .bool f]) (by exact bk_first w _ _ _ _ : Bk _ w.heap.size 30 _) Hb1.out (by simp; omega)
       obtain ⟨v0, v1, v2, g0, g1, g2⟩ := bb1.three))
  all_goals first
  | (refine fin3 kk2 fun F hF hgF x0 x1 x2 => ?_
     refine bodyPost_ret (by simp [results, Try.results50, go_sem, x0, x1, x2]; try rfl) rfl ?_
     refine ro_fin (by omega) Hx2.out q2 kk2 hF hgF ?_ ?_)
  | (refine fin3 kk1 fun F hF hgF x0 x1 x2 => ?_
     refine bodyPost_ret (by simp [results, Try.results50, go_sem, x0, x1, x2]; try rfl) rfl ?_
     refine ro_fin (by omega) Hx1.out q1 kk1 hF hgF ?_ ?_)
  | (go_returns
     refine ro_same H.out (by go_grown) ?_ ?_)
  all_goals go_light
  all_goals try simp only [beq_iff_eq, beq_eq_false_iff_ne, ne_eq] at *
  all_goals unfold rStep
  all_goals try dsimp only
  all_goals (repeat (first | rw [if_pos (by first | decide | omega | (simp; done) | (simp; omega))] | rw [if_neg (by first | decide | omega | (simp; done) | (simp; omega))]))
  all_goals first | rfl | (simp; done) | (rw [Bool.eq_iff_iff]; simp; omega) | (have e := Hst.out; generalize st.tail = r at *; subst e; rfl)

set_option maxHeartbeats 2000000 in
theorem st_76_x (S : List UInt8) (A : Option Addr) (n k : Nat) (f : Bool) (at_ p : Int) (w : World) (r2 : Stk) (q : Int) (hl : r2.length ≤ 997) (d b : UInt8) (hb40 : ((b.toNat : Int) == 40) = false) (hb123 : ((b.toNat : Int) == 123) = false) (hb36 : ((b.toNat : Int) == 36) = false)  (h : Rs w S A n k ((76, p) :: (d, q) :: r2)) :
    Calls Try.prog 50 #[.agg #[.string ⟨S.toArray⟩, .slice A n k, .bool f], .int .u8 ((b : UInt8).toNat : Int), .int .i64 at_] w (Ro w (rStep ((76, p) :: (d, q) :: r2) f b at_).1 (rStep ((76, p) :: (d, q) :: r2) f b at_).2) := by
  obtain ⟨j, hj⟩ : ∃ j, r2.length = j := ⟨_, rfl⟩
  obtain ⟨hS, hlt, hg⟩ := rs_top (m := j + 1) h (by simp [hj])
  obtain ⟨hlt0, hg0⟩ := rs_snd h hj
  have hi : ((j : Int) + 1) < (j : Int) + 1 + 1 := by omega
  have hmb : j ≤ 998 := by omega
  have HJ := Lib.hid hj
  clear hj
  have H := Lib.hid h
  clear h
  go_enter Try.func50, Try.ntmps50
  go_wp2_with (first
    | (go_at_call 81; refine (pop_r S A n k _ _ _ (H.out.next (by go_grown)) (by simp) (by simp; omega)).mono ?_
       rintro e w1 ⟨S1, A1, n1, k1, rfl, hx1, hb1⟩
       have Hx1 := Lib.hid hx1
       clear hx1
       have hz1 := hb1.size
       have hz1 : w.heap.size + 1 < w1.heap.size := by simp at hz1; omega
       have q1 : Below w.heap.size w w1 := below_next (by go_grown) hb1
       have kk1 := Bk.below (cs := #[.string ⟨#[]⟩, .slice none 0 0, .bool false]) (by first | exact bk_second w _ _ _ _ | exact (bk_second w _ _ _ _).drew : Bk _ (w.heap.size + 1) 30 _) hb1 (by simp)
       obtain ⟨y0, y1, y2, z0, z1, z2⟩ := kk1.three
       have Hb1 := Lib.hid hb1
       clear hb1
       have bb1 := Bk.below (cs := #[.string ⟨S.toArray⟩, .slice A n k, .bool f]) (by exact bk_first w _ _ _ _ : Bk _ w.heap.size 30 _) Hb1.out (by simp; omega)
       obtain ⟨v0, v1, v2, g0, g1, g2⟩ := bb1.three
       obtain ⟨hS1, hlt1, hg1⟩ := rs_top Hx1.out HJ.out)
    | (go_at_call 82; refine call3 bb1 fun F hF hgF => ?_
       refine (plain_r S1 A1 n1 k1 _ _ d b at_ _ ⟨Hx1.out.1, Hx1.out.2.1, Hx1.out.2.2.keep hgF (bb1.row (by decide))⟩ (d, q) rfl (by simp; omega)).mono ?_
       rintro e w2 ⟨S2, A2, n2, k2, rfl, hx2, hb2⟩
       have Hx2 := Lib.hid hx2
       clear hx2
       have q2 : Below w.heap.size w w2 := (q1.grown hgF q1.size (by intro j hj; injection hj with hj; omega)).trans (hb2.mono (Nat.le_trans q1.size hgF.size))
       have kk2 := (kk1.grown hgF (by simp)).below hb2 (Nat.lt_of_lt_of_le kk1.lt hgF.size)
       obtain ⟨y0, y1, y2, z0, z1, z2⟩ := kk2.three))
  all_goals first
  | (refine fin3 kk2 fun F hF hgF x0 x1 x2 => ?_
     refine bodyPost_ret (by simp [results, Try.results50, go_sem, x0, x1, x2]; try rfl) rfl ?_
     refine ro_fin (by omega) Hx2.out q2 kk2 hF hgF ?_ ?_)
  | (refine fin3 kk1 fun F hF hgF x0 x1 x2 => ?_
     refine bodyPost_ret (by simp [results, Try.results50, go_sem, x0, x1, x2]; try rfl) rfl ?_
     refine ro_fin (by omega) Hx1.out q1 kk1 hF hgF ?_ ?_)
  | (go_returns
     refine ro_same H.out (by go_grown) ?_ ?_)
  all_goals go_light
  all_goals try simp only [beq_iff_eq, beq_eq_false_iff_ne, ne_eq] at *
  all_goals unfold rStep
  all_goals try dsimp only
  all_goals (repeat (first | rw [if_pos (by first | decide | omega | (simp; done) | (simp; omega))] | rw [if_neg (by first | decide | omega | (simp; done) | (simp; omega))]))
  all_goals first | rfl | (simp; done) | (rw [Bool.eq_iff_iff]; simp; omega) | (have e := Hst.out; generalize st.tail = r at *; subst e; rfl)

set_option maxHeartbeats 2000000 in
theorem st_79_x (S : List UInt8) (A : Option Addr) (n k : Nat) (f : Bool) (at_ p : Int) (w : World) (r : Stk) (hl : r.length ≤ 998) (b : UInt8) (hb40 : ((b.toNat : Int) == 40) = false)  (h : Rs w S A n k ((79, p) :: r)) :
    Calls Try.prog 50 #[.agg #[.string ⟨S.toArray⟩, .slice A n k, .bool f], .int .u8 ((b : UInt8).toNat : Int), .int .i64 at_] w (Ro w (rStep ((79, p) :: r) f b at_).1 (rStep ((79, p) :: r) f b at_).2) := by
  obtain ⟨m, hm⟩ : ∃ m, r.length = m := ⟨_, rfl⟩
  obtain ⟨hS, hlt, hg⟩ := rs_top h hm
  have hi : (m : Int) < (m : Int) + 1 := by omega
  have hmb : m ≤ 998 := by omega
  have HM := Lib.hid hm
  clear hm
  have H := Lib.hid h
  clear h
  go_enter Try.func50, Try.ntmps50
  go_wp2_with (first
    | (go_at_call 80; refine (turn_r S A n k r 67 _ p _ _ (H.out.next (by go_grown)) (by omega)).mono ?_
       rintro e w1 ⟨S1, A1, n1, k1, rfl, hx1, hb1⟩
       have Hx1 := Lib.hid hx1
       clear hx1
       have hz1 := hb1.size
       have hz1 : w.heap.size + 1 < w1.heap.size := by simp at hz1; omega
       have q1 : Below w.heap.size w w1 := below_next (by go_grown) hb1
       have kk1 := Bk.below (cs := #[.string ⟨#[]⟩, .slice none 0 0, .bool false]) (by first | exact bk_second w _ _ _ _ | exact (bk_second w _ _ _ _).drew : Bk _ (w.heap.size + 1) 30 _) hb1 (by simp)
       obtain ⟨y0, y1, y2, z0, z1, z2⟩ := kk1.three
       have Hb1 := Lib.hid hb1
       clear hb1
       have bb1 := Bk.below (cs := #[.string ⟨S.toArray⟩, .slice A n k, .bool f]) (by exact bk_first w _ _ _ _ : Bk _ w.heap.size 30 _) Hb1.out (by simp; omega)
       obtain ⟨v0, v1, v2, g0, g1, g2⟩ := bb1.three)
    | (go_at_call 82; refine call3 bb1 fun F hF hgF => ?_
       refine (plain_r S1 A1 n1 k1 _ _ 67 b at_ _ ⟨Hx1.out.1, Hx1.out.2.1, Hx1.out.2.2.keep hgF (bb1.row (by decide))⟩ (67, p) rfl (by simp; omega)).mono ?_
       rintro e w2 ⟨S2, A2, n2, k2, rfl, hx2, hb2⟩
       have Hx2 := Lib.hid hx2
       clear hx2
       have q2 : Below w.heap.size w w2 := (q1.grown hgF q1.size (by intro j hj; injection hj with hj; omega)).trans (hb2.mono (Nat.le_trans q1.size hgF.size))
       have kk2 := (kk1.grown hgF (by simp)).below hb2 (Nat.lt_of_lt_of_le kk1.lt hgF.size)
       obtain ⟨y0, y1, y2, z0, z1, z2⟩ := kk2.three))
  all_goals first
  | (refine fin3 kk2 fun F hF hgF x0 x1 x2 => ?_
     refine bodyPost_ret (by simp [results, Try.results50, go_sem, x0, x1, x2]; try rfl) rfl ?_
     refine ro_fin (by omega) Hx2.out q2 kk2 hF hgF ?_ ?_)
  | (refine fin3 kk1 fun F hF hgF x0 x1 x2 => ?_
     refine bodyPost_ret (by simp [results, Try.results50, go_sem, x0, x1, x2]; try rfl) rfl ?_
     refine ro_fin (by omega) Hx1.out q1 kk1 hF hgF ?_ ?_)
  | (go_returns
     refine ro_same H.out (by go_grown) ?_ ?_)
  all_goals go_light
  all_goals try simp only [beq_iff_eq, beq_eq_false_iff_ne, ne_eq] at *
  all_goals unfold rStep
  all_goals try dsimp only
  all_goals (repeat (first | rw [if_pos (by first | decide | omega | (simp; done) | (simp; omega))] | rw [if_neg (by first | decide | omega | (simp; done) | (simp; omega))]))
  all_goals first | rfl | (simp; done) | (rw [Bool.eq_iff_iff]; simp; omega) | (have e := Hst.out; generalize st.tail = r at *; subst e; rfl)

set_option maxHeartbeats 2000000 in
theorem st_69_x (S : List UInt8) (A : Option Addr) (n k : Nat) (f : Bool) (at_ p : Int) (w : World) (r : Stk) (hl : r.length ≤ 998) (b : UInt8) (hb41 : ((b.toNat : Int) == 41) = false)  (h : Rs w S A n k ((69, p) :: r)) :
    Calls Try.prog 50 #[.agg #[.string ⟨S.toArray⟩, .slice A n k, .bool f], .int .u8 ((b : UInt8).toNat : Int), .int .i64 at_] w (Ro w (rStep ((69, p) :: r) f b at_).1 (rStep ((69, p) :: r) f b at_).2) := by
  obtain ⟨m, hm⟩ : ∃ m, r.length = m := ⟨_, rfl⟩
  obtain ⟨hS, hlt, hg⟩ := rs_top h hm
  have hi : (m : Int) < (m : Int) + 1 := by omega
  have hmb : m ≤ 998 := by omega
  have HM := Lib.hid hm
  clear hm
  have H := Lib.hid h
  clear h
  go_enter Try.func50, Try.ntmps50
  go_wp2_with (first
    | (go_at_call 80; refine (turn_r S A n k r 65 _ p _ _ (H.out.next (by go_grown)) (by omega)).mono ?_
       rintro e w1 ⟨S1, A1, n1, k1, rfl, hx1, hb1⟩
       have Hx1 := Lib.hid hx1
       clear hx1
       have hz1 := hb1.size
       have hz1 : w.heap.size + 1 < w1.heap.size := by simp at hz1; omega
       have q1 : Below w.heap.size w w1 := below_next (by go_grown) hb1
       have kk1 := Bk.below (cs := #[.string ⟨#[]⟩, .slice none 0 0, .bool false]) (by first | exact bk_second w _ _ _ _ | exact (bk_second w _ _ _ _).drew : Bk _ (w.heap.size + 1) 30 _) hb1 (by simp)
       obtain ⟨y0, y1, y2, z0, z1, z2⟩ := kk1.three
       have Hb1 := Lib.hid hb1
       clear hb1
       have bb1 := Bk.below (cs := #[.string ⟨S.toArray⟩, .slice A n k, .bool f]) (by exact bk_first w _ _ _ _ : Bk _ w.heap.size 30 _) Hb1.out (by simp; omega)
       obtain ⟨v0, v1, v2, g0, g1, g2⟩ := bb1.three)
    | (go_at_call 82; refine call3 bb1 fun F hF hgF => ?_
       refine (plain_r S1 A1 n1 k1 _ _ 65 b at_ _ ⟨Hx1.out.1, Hx1.out.2.1, Hx1.out.2.2.keep hgF (bb1.row (by decide))⟩ (65, p) rfl (by simp; omega)).mono ?_
       rintro e w2 ⟨S2, A2, n2, k2, rfl, hx2, hb2⟩
       have Hx2 := Lib.hid hx2
       clear hx2
       have q2 : Below w.heap.size w w2 := (q1.grown hgF q1.size (by intro j hj; injection hj with hj; omega)).trans (hb2.mono (Nat.le_trans q1.size hgF.size))
       have kk2 := (kk1.grown hgF (by simp)).below hb2 (Nat.lt_of_lt_of_le kk1.lt hgF.size)
       obtain ⟨y0, y1, y2, z0, z1, z2⟩ := kk2.three))
  all_goals first
  | (refine fin3 kk2 fun F hF hgF x0 x1 x2 => ?_
     refine bodyPost_ret (by simp [results, Try.results50, go_sem, x0, x1, x2]; try rfl) rfl ?_
     refine ro_fin (by omega) Hx2.out q2 kk2 hF hgF ?_ ?_)
  | (refine fin3 kk1 fun F hF hgF x0 x1 x2 => ?_
     refine bodyPost_ret (by simp [results, Try.results50, go_sem, x0, x1, x2]; try rfl) rfl ?_
     refine ro_fin (by omega) Hx1.out q1 kk1 hF hgF ?_ ?_)
  | (go_returns
     refine ro_same H.out (by go_grown) ?_ ?_)
  all_goals go_light
  all_goals try simp only [beq_iff_eq, beq_eq_false_iff_ne, ne_eq] at *
  all_goals unfold rStep
  all_goals try dsimp only
  all_goals (repeat (first | rw [if_pos (by first | decide | omega | (simp; done) | (simp; omega))] | rw [if_neg (by first | decide | omega | (simp; done) | (simp; omega))]))
  all_goals first | rfl | (simp; done) | (rw [Bool.eq_iff_iff]; simp; omega) | (have e := Hst.out; generalize st.tail = r at *; subst e; rfl)

end Go.Proofs.Ytjkiapgboljabaa
