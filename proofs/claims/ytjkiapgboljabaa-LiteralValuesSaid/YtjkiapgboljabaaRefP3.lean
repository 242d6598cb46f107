/- The reference's step of the machine in the plain modes (quillwortref06.plain), case by case. -/
import Derived.Test.YtjkiapgboljabaaRefM0
namespace Go.Proofs.Ytjkiapgboljabaa
open Go.RowKit
set_option linter.unusedVariables false
set_option linter.unusedSimpArgs false
set_option maxRecDepth 100000
set_option maxHeartbeats 2000000 in
theorem pl_65_40 (S : List UInt8) (A : Option Addr) (n k : Nat) (st : Stk) (f : Bool) (at_ : Int) (w : World) (h : Rs w S A n k st) (hd : UInt8 × Int) (hst : st = hd :: st.tail) (hl : st.length ≤ 1000) :
    Calls Try.prog 82 #[.agg #[.string ⟨S.toArray⟩, .slice A n k, .bool f], .int .u8 ((65 : UInt8).toNat : Int), .int .u8 ((40 : UInt8).toNat : Int), .int .i64 at_] w (Ro w (rPlain st f 65 40 at_).1 (rPlain st f 65 40 at_).2) := by
  have hne : st ≠ [] := by rw [hst]; simp
  have H := Lib.hid h
  have Hst := Lib.hid hst
  clear h hst
  have Ho := Lib.hid (show opensL 40 = [] by decide)
  go_enter Try.func82, Try.ntmps82
  go_wp2_with (first
    | (go_at_call 106; refine (opens_0 40 _ Ho.out).mono ?_; rintro e w' ⟨rfl, rfl⟩)
    | (go_at_call 105; refine (push_r S A n k st _ at_ _ _ (H.out.next (by go_grown)) hl).mono ?_
       rintro e w1 ⟨S1, A1, n1, k1, rfl, hx1, hb1⟩
       have Hx1 := Lib.hid hx1
       clear hx1
       have hz1 := hb1.size
       have hz1 : w.heap.size + 1 < w1.heap.size := by simp at hz1; omega
       have q1 : Below w.heap.size w w1 := below_next (by go_grown) hb1
       have kk1 := Bk.below (cs := #[.string ⟨#[]⟩, .slice none 0 0, .bool false]) (by first | exact bk_second w _ _ _ _ | exact (bk_second w _ _ _ _).drew : Bk _ (w.heap.size + 1) 30 _) hb1 (by simp)
       obtain ⟨y0, y1, y2, z0, z1, z2⟩ := kk1.three
       have Hb1 := Lib.hid hb1
       clear hb1))
  all_goals first
  | (refine fin3 kk2 fun F hF hgF x0 x1 x2 => ?_
     refine bodyPost_ret (by simp [results, Try.results82, go_sem, x0, x1, x2]; try rfl) rfl ?_
     refine ro_fin (by omega) Hx2.out q2 kk2 hF hgF ?_ ?_)
  | (refine fin3 kk1 fun F hF hgF x0 x1 x2 => ?_
     refine bodyPost_ret (by simp [results, Try.results82, go_sem, x0, x1, x2]; try rfl) rfl ?_
     refine ro_fin (by omega) Hx1.out q1 kk1 hF hgF ?_ ?_)
  | (go_returns
     refine ro_same H.out (by go_grown) ?_ ?_)
  all_goals go_light
  all_goals try simp only [beq_iff_eq, beq_eq_false_iff_ne, ne_eq] at *
  all_goals unfold rPlain
  all_goals try dsimp only
  all_goals (repeat (first | rw [if_pos (by first | decide | omega | (simp; done) | (simp; omega))] | rw [if_neg (by first | decide | omega | (simp; done) | (simp; omega))]))
  all_goals first | rfl | (simp; done) | (rw [Bool.eq_iff_iff]; simp; omega) | (have e := Hst.out; generalize st.tail = r at *; subst e; rfl)

set_option maxHeartbeats 2000000 in
theorem pl_65_41 (S : List UInt8) (A : Option Addr) (n k : Nat) (st : Stk) (f : Bool) (at_ : Int) (w : World) (h : Rs w S A n k st) (hd : UInt8 × Int) (hst : st = hd :: st.tail) (hl : st.length ≤ 1000) :
    Calls Try.prog 82 #[.agg #[.string ⟨S.toArray⟩, .slice A n k, .bool f], .int .u8 ((65 : UInt8).toNat : Int), .int .u8 ((41 : UInt8).toNat : Int), .int .i64 at_] w (Ro w (rPlain st f 65 41 at_).1 (rPlain st f 65 41 at_).2) := by
  have hne : st ≠ [] := by rw [hst]; simp
  have H := Lib.hid h
  have Hst := Lib.hid hst
  clear h hst
  have Ho := Lib.hid (show opensL 41 = [] by decide)
  go_enter Try.func82, Try.ntmps82
  go_wp2_with (first
    | (go_at_call 106; refine (opens_0 41 _ Ho.out).mono ?_; rintro e w' ⟨rfl, rfl⟩)
    | (go_at_call 81; refine (pop_r S A n k st _ _ (H.out.next (by go_grown)) hne hl).mono ?_
       rintro e w1 ⟨S1, A1, n1, k1, rfl, hx1, hb1⟩
       have Hx1 := Lib.hid hx1
       clear hx1
       have hz1 := hb1.size
       have hz1 : w.heap.size + 1 < w1.heap.size := by simp at hz1; omega
       have q1 : Below w.heap.size w w1 := below_next (by go_grown) hb1
       have kk1 := Bk.below (cs := #[.string ⟨#[]⟩, .slice none 0 0, .bool false]) (by first | exact bk_second w _ _ _ _ | exact (bk_second w _ _ _ _).drew : Bk _ (w.heap.size + 1) 30 _) hb1 (by simp)
       obtain ⟨y0, y1, y2, z0, z1, z2⟩ := kk1.three
       have Hb1 := Lib.hid hb1
       clear hb1)
    | (go_at_call 80; refine (turn_r S A n k st.tail _ hd.1 hd.2 _ _ (by rw [← Hst.out]; exact H.out.next (by go_grown)) (by rw [List.length_tail]; omega)).mono ?_
       rintro e w1 ⟨S1, A1, n1, k1, rfl, hx1, hb1⟩
       have Hx1 := Lib.hid hx1
       clear hx1
       have hz1 := hb1.size
       have hz1 : w.heap.size + 1 < w1.heap.size := by simp at hz1; omega
       have q1 : Below w.heap.size w w1 := below_next (by go_grown) hb1
       have kk1 := Bk.below (cs := #[.string ⟨#[]⟩, .slice none 0 0, .bool false]) (by first | exact bk_second w _ _ _ _ | exact (bk_second w _ _ _ _).drew : Bk _ (w.heap.size + 1) 30 _) hb1 (by simp)
       obtain ⟨y0, y1, y2, z0, z1, z2⟩ := kk1.three
       have Hb1 := Lib.hid hb1
       clear hb1))
  all_goals first
  | (refine fin3 kk2 fun F hF hgF x0 x1 x2 => ?_
     refine bodyPost_ret (by simp [results, Try.results82, go_sem, x0, x1, x2]; try rfl) rfl ?_
     refine ro_fin (by omega) Hx2.out q2 kk2 hF hgF ?_ ?_)
  | (refine fin3 kk1 fun F hF hgF x0 x1 x2 => ?_
     refine bodyPost_ret (by simp [results, Try.results82, go_sem, x0, x1, x2]; try rfl) rfl ?_
     refine ro_fin (by omega) Hx1.out q1 kk1 hF hgF ?_ ?_)
  | (go_returns
     refine ro_same H.out (by go_grown) ?_ ?_)
  all_goals go_light
  all_goals try simp only [beq_iff_eq, beq_eq_false_iff_ne, ne_eq] at *
  all_goals unfold rPlain
  all_goals try dsimp only
  all_goals (repeat (first | rw [if_pos (by first | decide | omega | (simp; done) | (simp; omega))] | rw [if_neg (by first | decide | omega | (simp; done) | (simp; omega))]))
  all_goals first | rfl | (simp; done) | (rw [Bool.eq_iff_iff]; simp; omega) | (have e := Hst.out; generalize st.tail = r at *; subst e; rfl)

set_option maxHeartbeats 2000000 in
theorem pl_65_x (S : List UInt8) (A : Option Addr) (n k : Nat) (st : Stk) (f : Bool) (b : UInt8) (at_ : Int) (w : World) (h : Rs w S A n k st) (hd : UInt8 × Int) (hst : st = hd :: st.tail) (hl : st.length ≤ 1000) (hb92 : ((b.toNat : Int) == 92) = false) (hb36 : ((b.toNat : Int) == 36) = false) (hb96 : ((b.toNat : Int) == 96) = false) (ho : opensL b = []) (hb40 : ((b.toNat : Int) == 40) = false) (hb41 : ((b.toNat : Int) == 41) = false) :
    Calls Try.prog 82 #[.agg #[.string ⟨S.toArray⟩, .slice A n k, .bool f], .int .u8 ((65 : UInt8).toNat : Int), .int .u8 ((b : UInt8).toNat : Int), .int .i64 at_] w (Ro w (rPlain st f 65 b at_).1 (rPlain st f 65 b at_).2) := by
  have hne : st ≠ [] := by rw [hst]; simp
  have H := Lib.hid h
  have Hst := Lib.hid hst
  clear h hst
  have Ho := Lib.hid ho
  clear ho
  go_enter Try.func82, Try.ntmps82
  go_wp2_with (first
    | (go_at_call 106; refine (opens_0 _ _ Ho.out).mono ?_; rintro e w' ⟨rfl, rfl⟩))
  all_goals first
  | (refine fin3 kk2 fun F hF hgF x0 x1 x2 => ?_
     refine bodyPost_ret (by simp [results, Try.results82, go_sem, x0, x1, x2]; try rfl) rfl ?_
     refine ro_fin (by omega) Hx2.out q2 kk2 hF hgF ?_ ?_)
  | (refine fin3 kk1 fun F hF hgF x0 x1 x2 => ?_
     refine bodyPost_ret (by simp [results, Try.results82, go_sem, x0, x1, x2]; try rfl) rfl ?_
     refine ro_fin (by omega) Hx1.out q1 kk1 hF hgF ?_ ?_)
  | (go_returns
     refine ro_same H.out (by go_grown) ?_ ?_)
  all_goals go_light
  all_goals try simp only [beq_iff_eq, beq_eq_false_iff_ne, ne_eq] at *
  all_goals unfold rPlain
  all_goals try dsimp only
  all_goals (repeat (first | rw [if_pos (by first | decide | omega | (simp; done) | (simp; omega))] | rw [if_neg (by first | decide | omega | (simp; done) | (simp; omega))]))
  all_goals first | rfl | (simp; done) | (rw [Bool.eq_iff_iff]; simp; omega) | (have e := Hst.out; generalize st.tail = r at *; subst e; rfl)

set_option maxHeartbeats 2000000 in
theorem pl_82_40 (S : List UInt8) (A : Option Addr) (n k : Nat) (st : Stk) (f : Bool) (at_ : Int) (w : World) (h : Rs w S A n k st) (hd : UInt8 × Int) (hst : st = hd :: st.tail) (hl : st.length ≤ 1000) :
    Calls Try.prog 82 #[.agg #[.string ⟨S.toArray⟩, .slice A n k, .bool f], .int .u8 ((82 : UInt8).toNat : Int), .int .u8 ((40 : UInt8).toNat : Int), .int .i64 at_] w (Ro w (rPlain st f 82 40 at_).1 (rPlain st f 82 40 at_).2) := by
  have hne : st ≠ [] := by rw [hst]; simp
  have H := Lib.hid h
  have Hst := Lib.hid hst
  clear h hst
  have Ho := Lib.hid (show opensL 40 = [] by decide)
  go_enter Try.func82, Try.ntmps82
  go_wp2_with (first
    | (go_at_call 106; refine (opens_0 40 _ Ho.out).mono ?_; rintro e w' ⟨rfl, rfl⟩)
    | (go_at_call 105; refine (push_r S A n k st _ at_ _ _ (H.out.next (by go_grown)) hl).mono ?_
       rintro e w1 ⟨S1, A1, n1, k1, rfl, hx1, hb1⟩
       have Hx1 := Lib.hid hx1
       clear hx1
       have hz1 := hb1.size
       have hz1 : w.heap.size + 1 < w1.heap.size := by simp at hz1; omega
       have q1 : Below w.heap.size w w1 := below_next (by go_grown) hb1
       have kk1 := Bk.below (cs := #[.string ⟨#[]⟩, .slice none 0 0, .bool false]) (by first | exact bk_second w _ _ _ _ | exact (bk_second w _ _ _ _).drew : Bk _ (w.heap.size + 1) 30 _) hb1 (by simp)
       obtain ⟨y0, y1, y2, z0, z1, z2⟩ := kk1.three
       have Hb1 := Lib.hid hb1
       clear hb1))
  all_goals first
  | (refine fin3 kk2 fun F hF hgF x0 x1 x2 => ?_
     refine bodyPost_ret (by simp [results, Try.results82, go_sem, x0, x1, x2]; try rfl) rfl ?_
     refine ro_fin (by omega) Hx2.out q2 kk2 hF hgF ?_ ?_)
  | (refine fin3 kk1 fun F hF hgF x0 x1 x2 => ?_
     refine bodyPost_ret (by simp [results, Try.results82, go_sem, x0, x1, x2]; try rfl) rfl ?_
     refine ro_fin (by omega) Hx1.out q1 kk1 hF hgF ?_ ?_)
  | (go_returns
     refine ro_same H.out (by go_grown) ?_ ?_)
  all_goals go_light
  all_goals try simp only [beq_iff_eq, beq_eq_false_iff_ne, ne_eq] at *
  all_goals unfold rPlain
  all_goals try dsimp only
  all_goals (repeat (first | rw [if_pos (by first | decide | omega | (simp; done) | (simp; omega))] | rw [if_neg (by first | decide | omega | (simp; done) | (simp; omega))]))
  all_goals first | rfl | (simp; done) | (rw [Bool.eq_iff_iff]; simp; omega) | (have e := Hst.out; generalize st.tail = r at *; subst e; rfl)

set_option maxHeartbeats 2000000 in
theorem pl_82_41 (S : List UInt8) (A : Option Addr) (n k : Nat) (st : Stk) (f : Bool) (at_ : Int) (w : World) (h : Rs w S A n k st) (hd : UInt8 × Int) (hst : st = hd :: st.tail) (hl : st.length ≤ 1000) :
    Calls Try.prog 82 #[.agg #[.string ⟨S.toArray⟩, .slice A n k, .bool f], .int .u8 ((82 : UInt8).toNat : Int), .int .u8 ((41 : UInt8).toNat : Int), .int .i64 at_] w (Ro w (rPlain st f 82 41 at_).1 (rPlain st f 82 41 at_).2) := by
  have hne : st ≠ [] := by rw [hst]; simp
  have H := Lib.hid h
  have Hst := Lib.hid hst
  clear h hst
  have Ho := Lib.hid (show opensL 41 = [] by decide)
  go_enter Try.func82, Try.ntmps82
  go_wp2_with (first
    | (go_at_call 106; refine (opens_0 41 _ Ho.out).mono ?_; rintro e w' ⟨rfl, rfl⟩)
    | (go_at_call 81; refine (pop_r S A n k st _ _ (H.out.next (by go_grown)) hne hl).mono ?_
       rintro e w1 ⟨S1, A1, n1, k1, rfl, hx1, hb1⟩
       have Hx1 := Lib.hid hx1
       clear hx1
       have hz1 := hb1.size
       have hz1 : w.heap.size + 1 < w1.heap.size := by simp at hz1; omega
       have q1 : Below w.heap.size w w1 := below_next (by go_grown) hb1
       have kk1 := Bk.below (cs := #[.string ⟨#[]⟩, .slice none 0 0, .bool false]) (by first | exact bk_second w _ _ _ _ | exact (bk_second w _ _ _ _).drew : Bk _ (w.heap.size + 1) 30 _) hb1 (by simp)
       obtain ⟨y0, y1, y2, z0, z1, z2⟩ := kk1.three
       have Hb1 := Lib.hid hb1
       clear hb1)
    | (go_at_call 80; refine (turn_r S A n k st.tail _ hd.1 hd.2 _ _ (by rw [← Hst.out]; exact H.out.next (by go_grown)) (by rw [List.length_tail]; omega)).mono ?_
       rintro e w1 ⟨S1, A1, n1, k1, rfl, hx1, hb1⟩
       have Hx1 := Lib.hid hx1
       clear hx1
       have hz1 := hb1.size
       have hz1 : w.heap.size + 1 < w1.heap.size := by simp at hz1; omega
       have q1 : Below w.heap.size w w1 := below_next (by go_grown) hb1
       have kk1 := Bk.below (cs := #[.string ⟨#[]⟩, .slice none 0 0, .bool false]) (by first | exact bk_second w _ _ _ _ | exact (bk_second w _ _ _ _).drew : Bk _ (w.heap.size + 1) 30 _) hb1 (by simp)
       obtain ⟨y0, y1, y2, z0, z1, z2⟩ := kk1.three
       have Hb1 := Lib.hid hb1
       clear hb1))
  all_goals first
  | (refine fin3 kk2 fun F hF hgF x0 x1 x2 => ?_
     refine bodyPost_ret (by simp [results, Try.results82, go_sem, x0, x1, x2]; try rfl) rfl ?_
     refine ro_fin (by omega) Hx2.out q2 kk2 hF hgF ?_ ?_)
  | (refine fin3 kk1 fun F hF hgF x0 x1 x2 => ?_
     refine bodyPost_ret (by simp [results, Try.results82, go_sem, x0, x1, x2]; try rfl) rfl ?_
     refine ro_fin (by omega) Hx1.out q1 kk1 hF hgF ?_ ?_)
  | (go_returns
     refine ro_same H.out (by go_grown) ?_ ?_)
  all_goals go_light
  all_goals try simp only [beq_iff_eq, beq_eq_false_iff_ne, ne_eq] at *
  all_goals unfold rPlain
  all_goals try dsimp only
  all_goals (repeat (first | rw [if_pos (by first | decide | omega | (simp; done) | (simp; omega))] | rw [if_neg (by first | decide | omega | (simp; done) | (simp; omega))]))
  all_goals first | rfl | (simp; done) | (rw [Bool.eq_iff_iff]; simp; omega) | (have e := Hst.out; generalize st.tail = r at *; subst e; rfl)

set_option maxHeartbeats 2000000 in
theorem pl_82_x (S : List UInt8) (A : Option Addr) (n k : Nat) (st : Stk) (f : Bool) (b : UInt8) (at_ : Int) (w : World) (h : Rs w S A n k st) (hd : UInt8 × Int) (hst : st = hd :: st.tail) (hl : st.length ≤ 1000) (hb92 : ((b.toNat : Int) == 92) = false) (hb36 : ((b.toNat : Int) == 36) = false) (hb96 : ((b.toNat : Int) == 96) = false) (ho : opensL b = []) (hb40 : ((b.toNat : Int) == 40) = false) (hb41 : ((b.toNat : Int) == 41) = false) :
    Calls Try.prog 82 #[.agg #[.string ⟨S.toArray⟩, .slice A n k, .bool f], .int .u8 ((82 : UInt8).toNat : Int), .int .u8 ((b : UInt8).toNat : Int), .int .i64 at_] w (Ro w (rPlain st f 82 b at_).1 (rPlain st f 82 b at_).2) := by
  have hne : st ≠ [] := by rw [hst]; simp
  have H := Lib.hid h
  have Hst := Lib.hid hst
  clear h hst
  have Ho := Lib.hid ho
  clear ho
  go_enter Try.func82, Try.ntmps82
  go_wp2_with (first
    | (go_at_call 106; refine (opens_0 _ _ Ho.out).mono ?_; rintro e w' ⟨rfl, rfl⟩))
  all_goals first
  | (refine fin3 kk2 fun F hF hgF x0 x1 x2 => ?_
     refine bodyPost_ret (by simp [results, Try.results82, go_sem, x0, x1, x2]; try rfl) rfl ?_
     refine ro_fin (by omega) Hx2.out q2 kk2 hF hgF ?_ ?_)
  | (refine fin3 kk1 fun F hF hgF x0 x1 x2 => ?_
     refine bodyPost_ret (by simp [results, Try.results82, go_sem, x0, x1, x2]; try rfl) rfl ?_
     refine ro_fin (by omega) Hx1.out q1 kk1 hF hgF ?_ ?_)
  | (go_returns
     refine ro_same H.out (by go_grown) ?_ ?_)
  all_goals go_light
  all_goals try simp only [beq_iff_eq, beq_eq_false_iff_ne, ne_eq] at *
  all_goals unfold rPlain
  all_goals try dsimp only
  all_goals (repeat (first | rw [if_pos (by first | decide | omega | (simp; done) | (simp; omega))] | rw [if_neg (by first | decide | omega | (simp; done) | (simp; omega))]))
  all_goals first | rfl | (simp; done) | (rw [Bool.eq_iff_iff]; simp; omega) | (have e := Hst.out; generalize st.tail = r at *; subst e; rfl)

set_option maxHeartbeats 2000000 in
theorem pl_68_34 (S : List UInt8) (A : Option Addr) (n k : Nat) (st : Stk) (f : Bool) (at_ : Int) (w : World) (h : Rs w S A n k st) (hd : UInt8 × Int) (hst : st = hd :: st.tail) (hl : st.length ≤ 1000) :
    Calls Try.prog 82 #[.agg #[.string ⟨S.toArray⟩, .slice A n k, .bool f], .int .u8 ((68 : UInt8).toNat : Int), .int .u8 ((34 : UInt8).toNat : Int), .int .i64 at_] w (Ro w (rPlain st f 68 34 at_).1 (rPlain st f 68 34 at_).2) := by
  have hne : st ≠ [] := by rw [hst]; simp
  have H := Lib.hid h
  have Hst := Lib.hid hst
  clear h hst
  have Ho := Lib.hid (show opensL 34 = [] by decide)
  go_enter Try.func82, Try.ntmps82
  go_wp2_with (first
    | (go_at_call 106; refine (opens_0 34 _ Ho.out).mono ?_; rintro e w' ⟨rfl, rfl⟩)
    | (go_at_call 81; refine (pop_r S A n k st _ _ (H.out.next (by go_grown)) hne hl).mono ?_
       rintro e w1 ⟨S1, A1, n1, k1, rfl, hx1, hb1⟩
       have Hx1 := Lib.hid hx1
       clear hx1
       have hz1 := hb1.size
       have hz1 : w.heap.size + 1 < w1.heap.size := by simp at hz1; omega
       have q1 : Below w.heap.size w w1 := below_next (by go_grown) hb1
       have kk1 := Bk.below (cs := #[.string ⟨#[]⟩, .slice none 0 0, .bool false]) (by first | exact bk_second w _ _ _ _ | exact (bk_second w _ _ _ _).drew : Bk _ (w.heap.size + 1) 30 _) hb1 (by simp)
       obtain ⟨y0, y1, y2, z0, z1, z2⟩ := kk1.three
       have Hb1 := Lib.hid hb1
       clear hb1))
  all_goals first
  | (refine fin3 kk2 fun F hF hgF x0 x1 x2 => ?_
     refine bodyPost_ret (by simp [results, Try.results82, go_sem, x0, x1, x2]; try rfl) rfl ?_
     refine ro_fin (by omega) Hx2.out q2 kk2 hF hgF ?_ ?_)
  | (refine fin3 kk1 fun F hF hgF x0 x1 x2 => ?_
     refine bodyPost_ret (by simp [results, Try.results82, go_sem, x0, x1, x2]; try rfl) rfl ?_
     refine ro_fin (by omega) Hx1.out q1 kk1 hF hgF ?_ ?_)
  | (go_returns
     refine ro_same H.out (by go_grown) ?_ ?_)
  all_goals go_light
  all_goals try simp only [beq_iff_eq, beq_eq_false_iff_ne, ne_eq] at *
  all_goals unfold rPlain
  all_goals try dsimp only
  all_goals (repeat (first | rw [if_pos (by first | decide | omega | (simp; done) | (simp; omega))] | rw [if_neg (by first | decide | omega | (simp; done) | (simp; omega))]))
  all_goals first | rfl | (simp; done) | (rw [Bool.eq_iff_iff]; simp; omega) | (have e := Hst.out; generalize st.tail = r at *; subst e; rfl)

set_option maxHeartbeats 2000000 in
theorem pl_68_x (S : List UInt8) (A : Option Addr) (n k : Nat) (st : Stk) (f : Bool) (b : UInt8) (at_ : Int) (w : World) (h : Rs w S A n k st) (hd : UInt8 × Int) (hst : st = hd :: st.tail) (hl : st.length ≤ 1000) (hb92 : ((b.toNat : Int) == 92) = false) (hb36 : ((b.toNat : Int) == 36) = false) (hb96 : ((b.toNat : Int) == 96) = false) (ho : opensL b = []) (hb34 : ((b.toNat : Int) == 34) = false) :
    Calls Try.prog 82 #[.agg #[.string ⟨S.toArray⟩, .slice A n k, .bool f], .int .u8 ((68 : UInt8).toNat : Int), .int .u8 ((b : UInt8).toNat : Int), .int .i64 at_] w (Ro w (rPlain st f 68 b at_).1 (rPlain st f 68 b at_).2) := by
  have hne : st ≠ [] := by rw [hst]; simp
  have H := Lib.hid h
  have Hst := Lib.hid hst
  clear h hst
  have Ho := Lib.hid ho
  clear ho
  go_enter Try.func82, Try.ntmps82
  go_wp2_with (first
    | (go_at_call 106; refine (opens_0 _ _ Ho.out).mono ?_; rintro e w' ⟨rfl, rfl⟩))
  all_goals first
  | (refine fin3 kk2 fun F hF hgF x0 x1 x2 => ?_
     refine bodyPost_ret (by simp [results, Try.results82, go_sem, x0, x1, x2]; try rfl) rfl ?_
     refine ro_fin (by omega) Hx2.out q2 kk2 hF hgF ?_ ?_)
  | (refine fin3 kk1 fun F hF hgF x0 x1 x2 => ?_
     refine bodyPost_ret (by simp [results, Try.results82, go_sem, x0, x1, x2]; try rfl) rfl ?_
     refine ro_fin (by omega) Hx1.out q1 kk1 hF hgF ?_ ?_)
  | (go_returns
     refine ro_same H.out (by go_grown) ?_ ?_)
  all_goals go_light
  all_goals try simp only [beq_iff_eq, beq_eq_false_iff_ne, ne_eq] at *
  all_goals unfold rPlain
  all_goals try dsimp only
  all_goals (repeat (first | rw [if_pos (by first | decide | omega | (simp; done) | (simp; omega))] | rw [if_neg (by first | decide | omega | (simp; done) | (simp; omega))]))
  all_goals first | rfl | (simp; done) | (rw [Bool.eq_iff_iff]; simp; omega) | (have e := Hst.out; generalize st.tail = r at *; subst e; rfl)

set_option maxHeartbeats 2000000 in
theorem pl_e_34 (S : List UInt8) (A : Option Addr) (n k : Nat) (st : Stk) (f : Bool) (c : UInt8) (at_ : Int) (w : World) (h : Rs w S A n k st) (hd : UInt8 × Int) (hst : st = hd :: st.tail) (hl : st.length ≤ 1000) (hc84 : ((c.toNat : Int) == 84) = false) (hc67 : ((c.toNat : Int) == 67) = false) (hc80 : ((c.toNat : Int) == 80) = false) (hc88 : ((c.toNat : Int) == 88) = false) (hc83 : ((c.toNat : Int) == 83) = false) (hc35 : ((c.toNat : Int) == 35) = false) (hc66 : ((c.toNat : Int) == 66) = false) (hc65 : ((c.toNat : Int) == 65) = false) (hc82 : ((c.toNat : Int) == 82) = false) (hc68 : ((c.toNat : Int) == 68) = false) :
    Calls Try.prog 82 #[.agg #[.string ⟨S.toArray⟩, .slice A n k, .bool f], .int .u8 ((c : UInt8).toNat : Int), .int .u8 ((34 : UInt8).toNat : Int), .int .i64 at_] w (Ro w (rPlain st f c 34 at_).1 (rPlain st f c 34 at_).2) := by
  have hne : st ≠ [] := by rw [hst]; simp
  have H := Lib.hid h
  have Hst := Lib.hid hst
  clear h hst
  have Ho := Lib.hid (show opensL 34 = [] by decide)
  go_enter Try.func82, Try.ntmps82
  go_wp2_with (first
    | (go_at_call 106; refine (opens_0 34 _ Ho.out).mono ?_; rintro e w' ⟨rfl, rfl⟩)
    | (go_at_call 105; refine (push_r S A n k st _ at_ _ _ (H.out.next (by go_grown)) hl).mono ?_
       rintro e w1 ⟨S1, A1, n1, k1, rfl, hx1, hb1⟩
       have Hx1 := Lib.hid hx1
       clear hx1
       have hz1 := hb1.size
       have hz1 : w.heap.size + 1 < w1.heap.size := by simp at hz1; omega
       have q1 : Below w.heap.size w w1 := below_next (by go_grown) hb1
       have kk1 := Bk.below (cs := #[.string ⟨#[]⟩, .slice none 0 0, .bool false]) (by first | exact bk_second w _ _ _ _ | exact (bk_second w _ _ _ _).drew : Bk _ (w.heap.size + 1) 30 _) hb1 (by simp)
       obtain ⟨y0, y1, y2, z0, z1, z2⟩ := kk1.three
       have Hb1 := Lib.hid hb1
       clear hb1))
  all_goals first
  | (refine fin3 kk2 fun F hF hgF x0 x1 x2 => ?_
     refine bodyPost_ret (by simp [results, Try.results82, go_sem, x0, x1, x2]; try rfl) rfl ?_
     refine ro_fin (by omega) Hx2.out q2 kk2 hF hgF ?_ ?_)
  | (refine fin3 kk1 fun F hF hgF x0 x1 x2 => ?_
     refine bodyPost_ret (by simp [results, Try.results82, go_sem, x0, x1, x2]; try rfl) rfl ?_
     refine ro_fin (by omega) Hx1.out q1 kk1 hF hgF ?_ ?_)
  | (go_returns
     refine ro_same H.out (by go_grown) ?_ ?_)
  all_goals go_light
  all_goals try simp only [beq_iff_eq, beq_eq_false_iff_ne, ne_eq] at *
  all_goals unfold rPlain
  all_goals try dsimp only
  all_goals (repeat (first | rw [if_pos (by first | decide | omega | (simp; done) | (simp; omega))] | rw [if_neg (by first | decide | omega | (simp; done) | (simp; omega))]))
  all_goals first | rfl | (simp; done) | (rw [Bool.eq_iff_iff]; simp; omega) | (have e := Hst.out; generalize st.tail = r at *; subst e; rfl)

set_option maxHeartbeats 2000000 in
theorem pl_e_125 (S : List UInt8) (A : Option Addr) (n k : Nat) (st : Stk) (f : Bool) (c : UInt8) (at_ : Int) (w : World) (h : Rs w S A n k st) (hd : UInt8 × Int) (hst : st = hd :: st.tail) (hl : st.length ≤ 1000) (hc84 : ((c.toNat : Int) == 84) = false) (hc67 : ((c.toNat : Int) == 67) = false) (hc80 : ((c.toNat : Int) == 80) = false) (hc88 : ((c.toNat : Int) == 88) = false) (hc83 : ((c.toNat : Int) == 83) = false) (hc35 : ((c.toNat : Int) == 35) = false) (hc66 : ((c.toNat : Int) == 66) = false) (hc65 : ((c.toNat : Int) == 65) = false) (hc82 : ((c.toNat : Int) == 82) = false) (hc68 : ((c.toNat : Int) == 68) = false) :
    Calls Try.prog 82 #[.agg #[.string ⟨S.toArray⟩, .slice A n k, .bool f], .int .u8 ((c : UInt8).toNat : Int), .int .u8 ((125 : UInt8).toNat : Int), .int .i64 at_] w (Ro w (rPlain st f c 125 at_).1 (rPlain st f c 125 at_).2) := by
  have hne : st ≠ [] := by rw [hst]; simp
  have H := Lib.hid h
  have Hst := Lib.hid hst
  clear h hst
  have Ho := Lib.hid (show opensL 125 = [] by decide)
  go_enter Try.func82, Try.ntmps82
  go_wp2_with (first
    | (go_at_call 106; refine (opens_0 125 _ Ho.out).mono ?_; rintro e w' ⟨rfl, rfl⟩)
    | (go_at_call 81; refine (pop_r S A n k st _ _ (H.out.next (by go_grown)) hne hl).mono ?_
       rintro e w1 ⟨S1, A1, n1, k1, rfl, hx1, hb1⟩
       have Hx1 := Lib.hid hx1
       clear hx1
       have hz1 := hb1.size
       have hz1 : w.heap.size + 1 < w1.heap.size := by simp at hz1; omega
       have q1 : Below w.heap.size w w1 := below_next (by go_grown) hb1
       have kk1 := Bk.below (cs := #[.string ⟨#[]⟩, .slice none 0 0, .bool false]) (by first | exact bk_second w _ _ _ _ | exact (bk_second w _ _ _ _).drew : Bk _ (w.heap.size + 1) 30 _) hb1 (by simp)
       obtain ⟨y0, y1, y2, z0, z1, z2⟩ := kk1.three
       have Hb1 := Lib.hid hb1
       clear hb1))
  all_goals first
  | (refine fin3 kk2 fun F hF hgF x0 x1 x2 => ?_
     refine bodyPost_ret (by simp [results, Try.results82, go_sem, x0, x1, x2]; try rfl) rfl ?_
     refine ro_fin (by omega) Hx2.out q2 kk2 hF hgF ?_ ?_)
  | (refine fin3 kk1 fun F hF hgF x0 x1 x2 => ?_
     refine bodyPost_ret (by simp [results, Try.results82, go_sem, x0, x1, x2]; try rfl) rfl ?_
     refine ro_fin (by omega) Hx1.out q1 kk1 hF hgF ?_ ?_)
  | (go_returns
     refine ro_same H.out (by go_grown) ?_ ?_)
  all_goals go_light
  all_goals try simp only [beq_iff_eq, beq_eq_false_iff_ne, ne_eq] at *
  all_goals unfold rPlain
  all_goals try dsimp only
  all_goals (repeat (first | rw [if_pos (by first | decide | omega | (simp; done) | (simp; omega))] | rw [if_neg (by first | decide | omega | (simp; done) | (simp; omega))]))
  all_goals first | rfl | (simp; done) | (rw [Bool.eq_iff_iff]; simp; omega) | (have e := Hst.out; generalize st.tail = r at *; subst e; rfl)

set_option maxHeartbeats 2000000 in
theorem pl_86_39 (S : List UInt8) (A : Option Addr) (n k : Nat) (st : Stk) (f : Bool) (at_ : Int) (w : World) (h : Rs w S A n k st) (hd : UInt8 × Int) (hst : st = hd :: st.tail) (hl : st.length ≤ 1000) :
    Calls Try.prog 82 #[.agg #[.string ⟨S.toArray⟩, .slice A n k, .bool f], .int .u8 ((86 : UInt8).toNat : Int), .int .u8 ((39 : UInt8).toNat : Int), .int .i64 at_] w (Ro w (rPlain st f 86 39 at_).1 (rPlain st f 86 39 at_).2) := by
  have hne : st ≠ [] := by rw [hst]; simp
  have H := Lib.hid h
  have Hst := Lib.hid hst
  clear h hst
  have Ho := Lib.hid (show opensL 39 = [] by decide)
  go_enter Try.func82, Try.ntmps82
  go_wp2_with (first
    | (go_at_call 106; refine (opens_0 39 _ Ho.out).mono ?_; rintro e w' ⟨rfl, rfl⟩)
    | (go_at_call 105; refine (push_r S A n k st _ at_ _ _ (H.out.next (by go_grown)) hl).mono ?_
       rintro e w1 ⟨S1, A1, n1, k1, rfl, hx1, hb1⟩
       have Hx1 := Lib.hid hx1
       clear hx1
       have hz1 := hb1.size
       have hz1 : w.heap.size + 1 < w1.heap.size := by simp at hz1; omega
       have q1 : Below w.heap.size w w1 := below_next (by go_grown) hb1
       have kk1 := Bk.below (cs := #[.string ⟨#[]⟩, .slice none 0 0, .bool false]) (by first | exact bk_second w _ _ _ _ | exact (bk_second w _ _ _ _).drew : Bk _ (w.heap.size + 1) 30 _) hb1 (by simp)
       obtain ⟨y0, y1, y2, z0, z1, z2⟩ := kk1.three
       have Hb1 := Lib.hid hb1
       clear hb1))
  all_goals first
  | (refine fin3 kk2 fun F hF hgF x0 x1 x2 => ?_
     refine bodyPost_ret (by simp [results, Try.results82, go_sem, x0, x1, x2]; try rfl) rfl ?_
     refine ro_fin (by omega) Hx2.out q2 kk2 hF hgF ?_ ?_)
  | (refine fin3 kk1 fun F hF hgF x0 x1 x2 => ?_
     refine bodyPost_ret (by simp [results, Try.results82, go_sem, x0, x1, x2]; try rfl) rfl ?_
     refine ro_fin (by omega) Hx1.out q1 kk1 hF hgF ?_ ?_)
  | (go_returns
     refine ro_same H.out (by go_grown) ?_ ?_)
  all_goals go_light
  all_goals try simp only [beq_iff_eq, beq_eq_false_iff_ne, ne_eq] at *
  all_goals unfold rPlain
  all_goals try dsimp only
  all_goals (repeat (first | rw [if_pos (by first | decide | omega | (simp; done) | (simp; omega))] | rw [if_neg (by first | decide | omega | (simp; done) | (simp; omega))]))
  all_goals first | rfl | (simp; done) | (rw [Bool.eq_iff_iff]; simp; omega) | (have e := Hst.out; generalize st.tail = r at *; subst e; rfl)

set_option maxHeartbeats 2000000 in
theorem pl_e_39 (S : List UInt8) (A : Option Addr) (n k : Nat) (st : Stk) (f : Bool) (c : UInt8) (at_ : Int) (w : World) (h : Rs w S A n k st) (hd : UInt8 × Int) (hst : st = hd :: st.tail) (hl : st.length ≤ 1000) (hc84 : ((c.toNat : Int) == 84) = false) (hc67 : ((c.toNat : Int) == 67) = false) (hc80 : ((c.toNat : Int) == 80) = false) (hc88 : ((c.toNat : Int) == 88) = false) (hc83 : ((c.toNat : Int) == 83) = false) (hc35 : ((c.toNat : Int) == 35) = false) (hc66 : ((c.toNat : Int) == 66) = false) (hc65 : ((c.toNat : Int) == 65) = false) (hc82 : ((c.toNat : Int) == 82) = false) (hc68 : ((c.toNat : Int) == 68) = false) (hc86 : ((c.toNat : Int) == 86) = false) :
    Calls Try.prog 82 #[.agg #[.string ⟨S.toArray⟩, .slice A n k, .bool f], .int .u8 ((c : UInt8).toNat : Int), .int .u8 ((39 : UInt8).toNat : Int), .int .i64 at_] w (Ro w (rPlain st f c 39 at_).1 (rPlain st f c 39 at_).2) := by
  have hne : st ≠ [] := by rw [hst]; simp
  have H := Lib.hid h
  have Hst := Lib.hid hst
  clear h hst
  have Ho := Lib.hid (show opensL 39 = [] by decide)
  go_enter Try.func82, Try.ntmps82
  go_wp2_with (first
    | (go_at_call 106; refine (opens_0 39 _ Ho.out).mono ?_; rintro e w' ⟨rfl, rfl⟩)
    | (go_at_call 105; refine (push_r S A n k st _ at_ _ _ (H.out.next (by go_grown)) hl).mono ?_
       rintro e w1 ⟨S1, A1, n1, k1, rfl, hx1, hb1⟩
       have Hx1 := Lib.hid hx1
       clear hx1
       have hz1 := hb1.size
       have hz1 : w.heap.size + 1 < w1.heap.size := by simp at hz1; omega
       have q1 : Below w.heap.size w w1 := below_next (by go_grown) hb1
       have kk1 := Bk.below (cs := #[.string ⟨#[]⟩, .slice none 0 0, .bool false]) (by first | exact bk_second w _ _ _ _ | exact (bk_second w _ _ _ _).drew : Bk _ (w.heap.size + 1) 30 _) hb1 (by simp)
       obtain ⟨y0, y1, y2, z0, z1, z2⟩ := kk1.three
       have Hb1 := Lib.hid hb1
       clear hb1))
  all_goals first
  | (refine fin3 kk2 fun F hF hgF x0 x1 x2 => ?_
     refine bodyPost_ret (by simp [results, Try.results82, go_sem, x0, x1, x2]; try rfl) rfl ?_
     refine ro_fin (by omega) Hx2.out q2 kk2 hF hgF ?_ ?_)
  | (refine fin3 kk1 fun F hF hgF x0 x1 x2 => ?_
     refine bodyPost_ret (by simp [results, Try.results82, go_sem, x0, x1, x2]; try rfl) rfl ?_
     refine ro_fin (by omega) Hx1.out q1 kk1 hF hgF ?_ ?_)
  | (go_returns
     refine ro_same H.out (by go_grown) ?_ ?_)
  all_goals go_light
  all_goals try simp only [beq_iff_eq, beq_eq_false_iff_ne, ne_eq] at *
  all_goals unfold rPlain
  all_goals try dsimp only
  all_goals (repeat (first | rw [if_pos (by first | decide | omega | (simp; done) | (simp; omega))] | rw [if_neg (by first | decide | omega | (simp; done) | (simp; omega))]))
  all_goals first | rfl | (simp; done) | (rw [Bool.eq_iff_iff]; simp; omega) | (have e := Hst.out; generalize st.tail = r at *; subst e; rfl)

set_option maxHeartbeats 2000000 in
theorem pl_e_x (S : List UInt8) (A : Option Addr) (n k : Nat) (st : Stk) (f : Bool) (c : UInt8) (b : UInt8) (at_ : Int) (w : World) (h : Rs w S A n k st) (hd : UInt8 × Int) (hst : st = hd :: st.tail) (hl : st.length ≤ 1000) (hc84 : ((c.toNat : Int) == 84) = false) (hc67 : ((c.toNat : Int) == 67) = false) (hc80 : ((c.toNat : Int) == 80) = false) (hc88 : ((c.toNat : Int) == 88) = false) (hc83 : ((c.toNat : Int) == 83) = false) (hc35 : ((c.toNat : Int) == 35) = false) (hc66 : ((c.toNat : Int) == 66) = false) (hc65 : ((c.toNat : Int) == 65) = false) (hc82 : ((c.toNat : Int) == 82) = false) (hc68 : ((c.toNat : Int) == 68) = false) (hb92 : ((b.toNat : Int) == 92) = false) (hb36 : ((b.toNat : Int) == 36) = false) (hb96 : ((b.toNat : Int) == 96) = false) (ho : opensL b = []) (hb34 : ((b.toNat : Int) == 34) = false) (hb125 : ((b.toNat : Int) == 125) = false) (hb39 : ((b.toNat : Int) == 39) = false) :
    Calls Try.prog 82 #[.agg #[.string ⟨S.toArray⟩, .slice A n k, .bool f], .int .u8 ((c : UInt8).toNat : Int), .int .u8 ((b : UInt8).toNat : Int), .int .i64 at_] w (Ro w (rPlain st f c b at_).1 (rPlain st f c b at_).2) := by
  have hne : st ≠ [] := by rw [hst]; simp
  have H := Lib.hid h
  have Hst := Lib.hid hst
  clear h hst
  have Ho := Lib.hid ho
  clear ho
  go_enter Try.func82, Try.ntmps82
  go_wp2_with (first
    | (go_at_call 106; refine (opens_0 _ _ Ho.out).mono ?_; rintro e w' ⟨rfl, rfl⟩))
  all_goals first
  | (refine fin3 kk2 fun F hF hgF x0 x1 x2 => ?_
     refine bodyPost_ret (by simp [results, Try.results82, go_sem, x0, x1, x2]; try rfl) rfl ?_
     refine ro_fin (by omega) Hx2.out q2 kk2 hF hgF ?_ ?_)
  | (refine fin3 kk1 fun F hF hgF x0 x1 x2 => ?_
     refine bodyPost_ret (by simp [results, Try.results82, go_sem, x0, x1, x2]; try rfl) rfl ?_
     refine ro_fin (by omega) Hx1.out q1 kk1 hF hgF ?_ ?_)
  | (go_returns
     refine ro_same H.out (by go_grown) ?_ ?_)
  all_goals go_light
  all_goals try simp only [beq_iff_eq, beq_eq_false_iff_ne, ne_eq] at *
  all_goals unfold rPlain
  all_goals try dsimp only
  all_goals (repeat (first | rw [if_pos (by first | decide | omega | (simp; done) | (simp; omega))] | rw [if_neg (by first | decide | omega | (simp; done) | (simp; omega))]))
  all_goals first | rfl | (simp; done) | (rw [Bool.eq_iff_iff]; simp; omega) | (have e := Hst.out; generalize st.tail = r at *; subst e; rfl)
end Go.Proofs.Ytjkiapgboljabaa
