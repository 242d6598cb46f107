/- The reference's step of the machine in the plain modes (quillwortref06.plain), case by case. -/
import Derived.Test.YtjkiapgboljabaaRefM0
namespace Go.Proofs.Ytjkiapgboljabaa
open Go.RowKit
set_option linter.unusedVariables false
set_option linter.unusedSimpArgs false
set_option maxRecDepth 100000
set_option maxHeartbeats 2000000 in
theorem pl_o92 (S : List UInt8) (A : Option Addr) (n k : Nat) (st : Stk) (f : Bool) (c : UInt8) (at_ : Int) (w : World) (h : Rs w S A n k st) (hd : UInt8 × Int) (hst : st = hd :: st.tail) (hl : st.length ≤ 1000) (hc84 : ((c.toNat : Int) == 84) = false) (hc67 : ((c.toNat : Int) == 67) = false) (hc80 : ((c.toNat : Int) == 80) = false) (hc88 : ((c.toNat : Int) == 88) = false) (hc83 : ((c.toNat : Int) == 83) = false) (hc35 : ((c.toNat : Int) == 35) = false) (hc66 : ((c.toNat : Int) == 66) = false) :
    Calls Try.prog 82 #[.agg #[.string ⟨S.toArray⟩, .slice A n k, .bool f], .int .u8 ((c : UInt8).toNat : Int), .int .u8 ((92 : UInt8).toNat : Int), .int .i64 at_] w (Ro w (rPlain st f c 92 at_).1 (rPlain st f c 92 at_).2) := by
  have hne : st ≠ [] := by rw [hst]; simp
  have H := Lib.hid h
  have Hst := Lib.hid hst
  clear h hst
  go_enter Try.func82, Try.ntmps82
  go_wp2_with (first
    | (go_at_call 106; refine (opens_k 92 88 _ (by decide)).mono ?_; rintro e w' ⟨rfl, rfl⟩)
    | (go_at_call 105; refine (push_r S A n k st _ at_ _ _ (H.out.next (by go_grown)) hl).mono ?_
       rintro e w1 ⟨S1, A1, n1, k1, rfl, hx1, hb1⟩
       have Hx1 := Lib.hid hx1
       clear hx1
       have hz1 := hb1.size
       have hz1 : w.heap.size + 1 < w1.heap.size := by simp at hz1; omega
       have q1 : Below w.heap.size w w1 := below_next (by go_grown) hb1
       have kk1 := Bk.below (cs := #[.string ⟨#[]⟩, .slice none 0 0, .bool false]) (by first | exact bk_second w _ _ _ _ | exact (bk_second w _ _ _ _).drew : Bk _ (w.heap.size + 1) 30 _) hb1 (by simp)
       obtain ⟨y0, y1, y2, z0, z1, z2⟩ := kk1.three
       have Hb1 := Lib.hid hb1
       clear hb1))
  go_region_with (first
    | (go_at_call 106; refine (opens_k 92 88 _ (by decide)).mono ?_; rintro e w' ⟨rfl, rfl⟩)
    | (go_at_call 105; refine (push_r S A n k st _ at_ _ _ (H.out.next (by go_grown)) hl).mono ?_
       rintro e w1 ⟨S1, A1, n1, k1, rfl, hx1, hb1⟩
       have Hx1 := Lib.hid hx1
       clear hx1
       have hz1 := hb1.size
       have hz1 : w.heap.size + 1 < w1.heap.size := by simp at hz1; omega
       have q1 : Below w.heap.size w w1 := below_next (by go_grown) hb1
       have kk1 := Bk.below (cs := #[.string ⟨#[]⟩, .slice none 0 0, .bool false]) (by first | exact bk_second w _ _ _ _ | exact (bk_second w _ _ _ _).drew : Bk _ (w.heap.size + 1) 30 _) hb1 (by simp)
       obtain ⟨y0, y1, y2, z0, z1, z2⟩ := kk1.three
       have Hb1 := Lib.hid hb1
       clear hb1))
  all_goals (go_wp2_with (first
    | (go_at_call 106; refine (opens_k 92 88 _ (by decide)).mono ?_; rintro e w' ⟨rfl, rfl⟩)
    | (go_at_call 105; refine (push_r S A n k st _ at_ _ _ (H.out.next (by go_grown)) hl).mono ?_
       rintro e w1 ⟨S1, A1, n1, k1, rfl, hx1, hb1⟩
       have Hx1 := Lib.hid hx1
       clear hx1
       have hz1 := hb1.size
       have hz1 : w.heap.size + 1 < w1.heap.size := by simp at hz1; omega
       have q1 : Below w.heap.size w w1 := below_next (by go_grown) hb1
       have kk1 := Bk.below (cs := #[.string ⟨#[]⟩, .slice none 0 0, .bool false]) (by first | exact bk_second w _ _ _ _ | exact (bk_second w _ _ _ _).drew : Bk _ (w.heap.size + 1) 30 _) hb1 (by simp)
       obtain ⟨y0, y1, y2, z0, z1, z2⟩ := kk1.three
       have Hb1 := Lib.hid hb1
       clear hb1)))
  all_goals first
  | (refine fin3 kk2 fun F hF hgF x0 x1 x2 => ?_
     refine bodyPost_ret (by simp [results, Try.results82, go_sem, x0, x1, x2]; try rfl) rfl ?_
     refine ro_fin (by omega) Hx2.out q2 kk2 hF hgF ?_ ?_)
  | (refine fin3 kk1 fun F hF hgF x0 x1 x2 => ?_
     refine bodyPost_ret (by simp [results, Try.results82, go_sem, x0, x1, x2]; try rfl) rfl ?_
     refine ro_fin (by omega) Hx1.out q1 kk1 hF hgF ?_ ?_)
  | (go_returns
     refine ro_same H.out (by go_grown) ?_ ?_)
  all_goals go_light
  all_goals try simp only [beq_iff_eq, beq_eq_false_iff_ne, ne_eq] at *
  all_goals unfold rPlain
  all_goals try dsimp only
  all_goals (repeat (first | rw [if_pos (by first | decide | omega | (simp; done) | (simp; omega))] | rw [if_neg (by first | decide | omega | (simp; done) | (simp; omega))]))
  all_goals first | rfl | (simp; done) | (rw [Bool.eq_iff_iff]; simp; omega) | (have e := Hst.out; generalize st.tail = r at *; subst e; rfl)

set_option maxHeartbeats 2000000 in
theorem pl_o36 (S : List UInt8) (A : Option Addr) (n k : Nat) (st : Stk) (f : Bool) (c : UInt8) (at_ : Int) (w : World) (h : Rs w S A n k st) (hd : UInt8 × Int) (hst : st = hd :: st.tail) (hl : st.length ≤ 1000) (hc84 : ((c.toNat : Int) == 84) = false) (hc67 : ((c.toNat : Int) == 67) = false) (hc80 : ((c.toNat : Int) == 80) = false) (hc88 : ((c.toNat : Int) == 88) = false) (hc83 : ((c.toNat : Int) == 83) = false) (hc35 : ((c.toNat : Int) == 35) = false) (hc66 : ((c.toNat : Int) == 66) = false) :
    Calls Try.prog 82 #[.agg #[.string ⟨S.toArray⟩, .slice A n k, .bool f], .int .u8 ((c : UInt8).toNat : Int), .int .u8 ((36 : UInt8).toNat : Int), .int .i64 at_] w (Ro w (rPlain st f c 36 at_).1 (rPlain st f c 36 at_).2) := by
  have hne : st ≠ [] := by rw [hst]; simp
  have H := Lib.hid h
  have Hst := Lib.hid hst
  clear h hst
  go_enter Try.func82, Try.ntmps82
  go_wp2_with (first
    | (go_at_call 106; refine (opens_k 36 76 _ (by decide)).mono ?_; rintro e w' ⟨rfl, rfl⟩)
    | (go_at_call 105; refine (push_r S A n k st _ at_ _ _ (H.out.next (by go_grown)) hl).mono ?_
       rintro e w1 ⟨S1, A1, n1, k1, rfl, hx1, hb1⟩
       have Hx1 := Lib.hid hx1
       clear hx1
       have hz1 := hb1.size
       have hz1 : w.heap.size + 1 < w1.heap.size := by simp at hz1; omega
       have q1 : Below w.heap.size w w1 := below_next (by go_grown) hb1
       have kk1 := Bk.below (cs := #[.string ⟨#[]⟩, .slice none 0 0, .bool false]) (by first | exact bk_second w _ _ _ _ | exact (bk_second w _ _ _ _).drew : Bk _ (w.heap.size + 1) 30 _) hb1 (by simp)
       obtain ⟨y0, y1, y2, z0, z1, z2⟩ := kk1.three
       have Hb1 := Lib.hid hb1
       clear hb1))
  go_region_with (first
    | (go_at_call 106; refine (opens_k 36 76 _ (by decide)).mono ?_; rintro e w' ⟨rfl, rfl⟩)
    | (go_at_call 105; refine (push_r S A n k st _ at_ _ _ (H.out.next (by go_grown)) hl).mono ?_
       rintro e w1 ⟨S1, A1, n1, k1, rfl, hx1, hb1⟩
       have Hx1 := Lib.hid hx1
       clear hx1
       have hz1 := hb1.size
       have hz1 : w.heap.size + 1 < w1.heap.size := by simp at hz1; omega
       have q1 : Below w.heap.size w w1 := below_next (by go_grown) hb1
       have kk1 := Bk.below (cs := #[.string ⟨#[]⟩, .slice none 0 0, .bool false]) (by first | exact bk_second w _ _ _ _ | exact (bk_second w _ _ _ _).drew : Bk _ (w.heap.size + 1) 30 _) hb1 (by simp)
       obtain ⟨y0, y1, y2, z0, z1, z2⟩ := kk1.three
       have Hb1 := Lib.hid hb1
       clear hb1))
  all_goals (go_wp2_with (first
    | (go_at_call 106; refine (opens_k 36 76 _ (by decide)).mono ?_; rintro e w' ⟨rfl, rfl⟩)
    | (go_at_call 105; refine (push_r S A n k st _ at_ _ _ (H.out.next (by go_grown)) hl).mono ?_
       rintro e w1 ⟨S1, A1, n1, k1, rfl, hx1, hb1⟩
       have Hx1 := Lib.hid hx1
       clear hx1
       have hz1 := hb1.size
       have hz1 : w.heap.size + 1 < w1.heap.size := by simp at hz1; omega
       have q1 : Below w.heap.size w w1 := below_next (by go_grown) hb1
       have kk1 := Bk.below (cs := #[.string ⟨#[]⟩, .slice none 0 0, .bool false]) (by first | exact bk_second w _ _ _ _ | exact (bk_second w _ _ _ _).drew : Bk _ (w.heap.size + 1) 30 _) hb1 (by simp)
       obtain ⟨y0, y1, y2, z0, z1, z2⟩ := kk1.three
       have Hb1 := Lib.hid hb1
       clear hb1)))
  all_goals first
  | (refine fin3 kk2 fun F hF hgF x0 x1 x2 => ?_
     refine bodyPost_ret (by simp [results, Try.results82, go_sem, x0, x1, x2]; try rfl) rfl ?_
     refine ro_fin (by omega) Hx2.out q2 kk2 hF hgF ?_ ?_)
  | (refine fin3 kk1 fun F hF hgF x0 x1 x2 => ?_
     refine bodyPost_ret (by simp [results, Try.results82, go_sem, x0, x1, x2]; try rfl) rfl ?_
     refine ro_fin (by omega) Hx1.out q1 kk1 hF hgF ?_ ?_)
  | (go_returns
     refine ro_same H.out (by go_grown) ?_ ?_)
  all_goals go_light
  all_goals try simp only [beq_iff_eq, beq_eq_false_iff_ne, ne_eq] at *
  all_goals unfold rPlain
  all_goals try dsimp only
  all_goals (repeat (first | rw [if_pos (by first | decide | omega | (simp; done) | (simp; omega))] | rw [if_neg (by first | decide | omega | (simp; done) | (simp; omega))]))
  all_goals first | rfl | (simp; done) | (rw [Bool.eq_iff_iff]; simp; omega) | (have e := Hst.out; generalize st.tail = r at *; subst e; rfl)

set_option maxHeartbeats 2000000 in
theorem pl_o96 (S : List UInt8) (A : Option Addr) (n k : Nat) (st : Stk) (f : Bool) (c : UInt8) (at_ : Int) (w : World) (h : Rs w S A n k st) (hd : UInt8 × Int) (hst : st = hd :: st.tail) (hl : st.length ≤ 1000) (hc84 : ((c.toNat : Int) == 84) = false) (hc67 : ((c.toNat : Int) == 67) = false) (hc80 : ((c.toNat : Int) == 80) = false) (hc88 : ((c.toNat : Int) == 88) = false) (hc83 : ((c.toNat : Int) == 83) = false) (hc35 : ((c.toNat : Int) == 35) = false) (hc66 : ((c.toNat : Int) == 66) = false) :
    Calls Try.prog 82 #[.agg #[.string ⟨S.toArray⟩, .slice A n k, .bool f], .int .u8 ((c : UInt8).toNat : Int), .int .u8 ((96 : UInt8).toNat : Int), .int .i64 at_] w (Ro w (rPlain st f c 96 at_).1 (rPlain st f c 96 at_).2) := by
  have hne : st ≠ [] := by rw [hst]; simp
  have H := Lib.hid h
  have Hst := Lib.hid hst
  clear h hst
  go_enter Try.func82, Try.ntmps82
  go_wp2_with (first
    | (go_at_call 106; refine (opens_k 96 66 _ (by decide)).mono ?_; rintro e w' ⟨rfl, rfl⟩)
    | (go_at_call 105; refine (push_r S A n k st _ at_ _ _ (H.out.next (by go_grown)) hl).mono ?_
       rintro e w1 ⟨S1, A1, n1, k1, rfl, hx1, hb1⟩
       have Hx1 := Lib.hid hx1
       clear hx1
       have hz1 := hb1.size
       have hz1 : w.heap.size + 1 < w1.heap.size := by simp at hz1; omega
       have q1 : Below w.heap.size w w1 := below_next (by go_grown) hb1
       have kk1 := Bk.below (cs := #[.string ⟨#[]⟩, .slice none 0 0, .bool false]) (by first | exact bk_second w _ _ _ _ | exact (bk_second w _ _ _ _).drew : Bk _ (w.heap.size + 1) 30 _) hb1 (by simp)
       obtain ⟨y0, y1, y2, z0, z1, z2⟩ := kk1.three
       have Hb1 := Lib.hid hb1
       clear hb1))
  go_region_with (first
    | (go_at_call 106; refine (opens_k 96 66 _ (by decide)).mono ?_; rintro e w' ⟨rfl, rfl⟩)
    | (go_at_call 105; refine (push_r S A n k st _ at_ _ _ (H.out.next (by go_grown)) hl).mono ?_
       rintro e w1 ⟨S1, A1, n1, k1, rfl, hx1, hb1⟩
       have Hx1 := Lib.hid hx1
       clear hx1
       have hz1 := hb1.size
       have hz1 : w.heap.size + 1 < w1.heap.size := by simp at hz1; omega
       have q1 : Below w.heap.size w w1 := below_next (by go_grown) hb1
       have kk1 := Bk.below (cs := #[.string ⟨#[]⟩, .slice none 0 0, .bool false]) (by first | exact bk_second w _ _ _ _ | exact (bk_second w _ _ _ _).drew : Bk _ (w.heap.size + 1) 30 _) hb1 (by simp)
       obtain ⟨y0, y1, y2, z0, z1, z2⟩ := kk1.three
       have Hb1 := Lib.hid hb1
       clear hb1))
  all_goals (go_wp2_with (first
    | (go_at_call 106; refine (opens_k 96 66 _ (by decide)).mono ?_; rintro e w' ⟨rfl, rfl⟩)
    | (go_at_call 105; refine (push_r S A n k st _ at_ _ _ (H.out.next (by go_grown)) hl).mono ?_
       rintro e w1 ⟨S1, A1, n1, k1, rfl, hx1, hb1⟩
       have Hx1 := Lib.hid hx1
       clear hx1
       have hz1 := hb1.size
       have hz1 : w.heap.size + 1 < w1.heap.size := by simp at hz1; omega
       have q1 : Below w.heap.size w w1 := below_next (by go_grown) hb1
       have kk1 := Bk.below (cs := #[.string ⟨#[]⟩, .slice none 0 0, .bool false]) (by first | exact bk_second w _ _ _ _ | exact (bk_second w _ _ _ _).drew : Bk _ (w.heap.size + 1) 30 _) hb1 (by simp)
       obtain ⟨y0, y1, y2, z0, z1, z2⟩ := kk1.three
       have Hb1 := Lib.hid hb1
       clear hb1)))
  all_goals first
  | (refine fin3 kk2 fun F hF hgF x0 x1 x2 => ?_
     refine bodyPost_ret (by simp [results, Try.results82, go_sem, x0, x1, x2]; try rfl) rfl ?_
     refine ro_fin (by omega) Hx2.out q2 kk2 hF hgF ?_ ?_)
  | (refine fin3 kk1 fun F hF hgF x0 x1 x2 => ?_
     refine bodyPost_ret (by simp [results, Try.results82, go_sem, x0, x1, x2]; try rfl) rfl ?_
     refine ro_fin (by omega) Hx1.out q1 kk1 hF hgF ?_ ?_)
  | (go_returns
     refine ro_same H.out (by go_grown) ?_ ?_)
  all_goals go_light
  all_goals try simp only [beq_iff_eq, beq_eq_false_iff_ne, ne_eq] at *
  all_goals unfold rPlain
  all_goals try dsimp only
  all_goals (repeat (first | rw [if_pos (by first | decide | omega | (simp; done) | (simp; omega))] | rw [if_neg (by first | decide | omega | (simp; done) | (simp; omega))]))
  all_goals first | rfl | (simp; done) | (rw [Bool.eq_iff_iff]; simp; omega) | (have e := Hst.out; generalize st.tail = r at *; subst e; rfl)
end Go.Proofs.Ytjkiapgboljabaa
