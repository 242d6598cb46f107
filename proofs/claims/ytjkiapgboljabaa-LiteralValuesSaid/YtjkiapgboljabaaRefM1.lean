/- The reference's step of the machine in Top, Command and Paren (quillwortref06.program): it computes rProgram. -/
import Derived.Test.YtjkiapgboljabaaRefM0
namespace Go.Proofs.Ytjkiapgboljabaa
open Go.RowKit
set_option linter.unusedVariables false
set_option linter.unusedSimpArgs false
set_option maxRecDepth 100000
set_option maxHeartbeats 8000000 in
theorem program_r (S : List UInt8) (A : Option Addr) (n k : Nat) (st : Stk) (f : Bool) (c b : UInt8) (at_ : Int) (w : World) (h : Rs w S A n k st) (hne : st ≠ []) (hl : st.length ≤ 1000) :
    Calls Try.prog 104 #[.agg #[.string ⟨S.toArray⟩, .slice A n k, .bool f], .int .u8 (c.toNat : Int), .int .u8 (b.toNat : Int), .int .i64 at_] w (Ro w (rProgram st f c b at_).1 (rProgram st f c b at_).2) := by
  have H := Lib.hid h
  clear h
  rcases byte_cases b with rfl | rfl | rfl | rfl | rfl | rfl | rfl | rfl | ⟨h92, h39, h34, h96, h36, h35, h40, h41⟩
  case' inr.inr.inr.inr.inr.inl => cases f
  all_goals (
    go_enter Try.func104, Try.ntmps104
    go_wp2_with (first
    | (go_at_call 105; refine (push_r S A n k st _ at_ _ _ (H.out.next (by go_grown)) hl).mono ?_
       rintro e w1 ⟨S1, A1, n1, k1, rfl, hx1, hb1⟩
       have Hx1 := Lib.hid hx1
       clear hx1
       have hz1 := hb1.size
       have hz1 : w.heap.size + 1 < w1.heap.size := by simp at hz1; omega
       have q1 : Below w.heap.size w w1 := below_next (by go_grown) hb1
       have kk1 := Bk.below (cs := #[.string ⟨#[]⟩, .slice none 0 0, .bool false]) (by first | exact bk_second w _ _ _ _ | exact (bk_second w _ _ _ _).drew : Bk _ (w.heap.size + 1) 30 _) hb1 (by simp)
       obtain ⟨y0, y1, y2, z0, z1, z2⟩ := kk1.three
       have Hb1 := Lib.hid hb1
       clear hb1)
    | (go_at_call 81; refine (pop_r S A n k st _ _ (H.out.next (by go_grown)) hne hl).mono ?_
       rintro e w1 ⟨S1, A1, n1, k1, rfl, hx1, hb1⟩
       have Hx1 := Lib.hid hx1
       clear hx1
       have hz1 := hb1.size
       have hz1 : w.heap.size + 1 < w1.heap.size := by simp at hz1; omega
       have q1 : Below w.heap.size w w1 := below_next (by go_grown) hb1
       have kk1 := Bk.below (cs := #[.string ⟨#[]⟩, .slice none 0 0, .bool false]) (by first | exact bk_second w _ _ _ _ | exact (bk_second w _ _ _ _).drew : Bk _ (w.heap.size + 1) 30 _) hb1 (by simp)
       obtain ⟨y0, y1, y2, z0, z1, z2⟩ := kk1.three
       have Hb1 := Lib.hid hb1
       clear hb1)
    | (go_at_call 79; refine (mark_r S1 A1 n1 k1 _ _ _ _ Hx1.out).mono ?_
       rintro e w2 ⟨S2, A2, n2, k2, rfl, hx2, hb2⟩
       have Hx2 := Lib.hid hx2
       clear hx2
       have q2 : Below w.heap.size w w2 := q1.trans (hb2.mono q1.size)
       have kk2 := kk1.below hb2 kk1.lt
       obtain ⟨y0, y1, y2, z0, z1, z2⟩ := kk2.three)
    | (go_at_call 79; refine (mark_r S A n k st _ _ _ (H.out.next (by go_grown))).mono ?_
       rintro e w1 ⟨S1, A1, n1, k1, rfl, hx1, hb1⟩
       have Hx1 := Lib.hid hx1
       clear hx1
       have hz1 := hb1.size
       have hz1 : w.heap.size + 1 < w1.heap.size := by simp at hz1; omega
       have q1 : Below w.heap.size w w1 := below_next (by go_grown) hb1
       have kk1 := Bk.below (cs := #[.string ⟨#[]⟩, .slice none 0 0, .bool false]) (by first | exact bk_second w _ _ _ _ | exact (bk_second w _ _ _ _).drew : Bk _ (w.heap.size + 1) 30 _) hb1 (by simp)
       obtain ⟨y0, y1, y2, z0, z1, z2⟩ := kk1.three
       have Hb1 := Lib.hid hb1
       clear hb1)
    | (go_at_call 113; refine (rends_c b _).mono ?_; rintro e w' ⟨rfl, rfl⟩)
    | (go_at_call 113; refine (rends_c 35 _).mono ?_; rintro e w' ⟨rfl, rfl⟩))
    try (
     go_region_with (first
    | (go_at_call 105; refine (push_r S A n k st _ at_ _ _ (H.out.next (by go_grown)) hl).mono ?_
       rintro e w1 ⟨S1, A1, n1, k1, rfl, hx1, hb1⟩
       have Hx1 := Lib.hid hx1
       clear hx1
       have hz1 := hb1.size
       have hz1 : w.heap.size + 1 < w1.heap.size := by simp at hz1; omega
       have q1 : Below w.heap.size w w1 := below_next (by go_grown) hb1
       have kk1 := Bk.below (cs := #[.string ⟨#[]⟩, .slice none 0 0, .bool false]) (by first | exact bk_second w _ _ _ _ | exact (bk_second w _ _ _ _).drew : Bk _ (w.heap.size + 1) 30 _) hb1 (by simp)
       obtain ⟨y0, y1, y2, z0, z1, z2⟩ := kk1.three
       have Hb1 := Lib.hid hb1
       clear hb1)
    | (go_at_call 79; refine (mark_r S1 A1 n1 k1 _ _ _ _ Hx1.out).mono ?_
       rintro e w2 ⟨S2, A2, n2, k2, rfl, hx2, hb2⟩
       have Hx2 := Lib.hid hx2
       clear hx2
       have q2 : Below w.heap.size w w2 := q1.trans (hb2.mono q1.size)
       have kk2 := kk1.below hb2 kk1.lt
       obtain ⟨y0, y1, y2, z0, z1, z2⟩ := kk2.three)
    | (go_at_call 79; refine (mark_r S A n k st _ _ _ (H.out.next (by go_grown))).mono ?_
       rintro e w1 ⟨S1, A1, n1, k1, rfl, hx1, hb1⟩
       have Hx1 := Lib.hid hx1
       clear hx1
       have hz1 := hb1.size
       have hz1 : w.heap.size + 1 < w1.heap.size := by simp at hz1; omega
       have q1 : Below w.heap.size w w1 := below_next (by go_grown) hb1
       have kk1 := Bk.below (cs := #[.string ⟨#[]⟩, .slice none 0 0, .bool false]) (by first | exact bk_second w _ _ _ _ | exact (bk_second w _ _ _ _).drew : Bk _ (w.heap.size + 1) 30 _) hb1 (by simp)
       obtain ⟨y0, y1, y2, z0, z1, z2⟩ := kk1.three
       have Hb1 := Lib.hid hb1
       clear hb1)
    | (go_at_call 113; refine (rends_c b _).mono ?_; rintro e w' ⟨rfl, rfl⟩)
    | (go_at_call 113; refine (rends_c 35 _).mono ?_; rintro e w' ⟨rfl, rfl⟩)
    | (go_at_call 106; refine (opens_k 96 66 _ (by decide)).mono ?_; rintro e w' ⟨rfl, rfl⟩)
    | (go_at_call 106; refine (opens_k 36 76 _ (by decide)).mono ?_; rintro e w' ⟨rfl, rfl⟩))
     all_goals (go_wp2_with (first
    | (go_at_call 105; refine (push_r S A n k st _ at_ _ _ (H.out.next (by go_grown)) hl).mono ?_
       rintro e w1 ⟨S1, A1, n1, k1, rfl, hx1, hb1⟩
       have Hx1 := Lib.hid hx1
       clear hx1
       have hz1 := hb1.size
       have hz1 : w.heap.size + 1 < w1.heap.size := by simp at hz1; omega
       have q1 : Below w.heap.size w w1 := below_next (by go_grown) hb1
       have kk1 := Bk.below (cs := #[.string ⟨#[]⟩, .slice none 0 0, .bool false]) (by first | exact bk_second w _ _ _ _ | exact (bk_second w _ _ _ _).drew : Bk _ (w.heap.size + 1) 30 _) hb1 (by simp)
       obtain ⟨y0, y1, y2, z0, z1, z2⟩ := kk1.three
       have Hb1 := Lib.hid hb1
       clear hb1)
    | (go_at_call 79; refine (mark_r S1 A1 n1 k1 _ _ _ _ Hx1.out).mono ?_
       rintro e w2 ⟨S2, A2, n2, k2, rfl, hx2, hb2⟩
       have Hx2 := Lib.hid hx2
       clear hx2
       have q2 : Below w.heap.size w w2 := q1.trans (hb2.mono q1.size)
       have kk2 := kk1.below hb2 kk1.lt
       obtain ⟨y0, y1, y2, z0, z1, z2⟩ := kk2.three))))
    all_goals first
    | (refine fin3 kk2 fun F hF hgF x0 x1 x2 => ?_
       refine bodyPost_ret (by simp [results, Try.results104, go_sem, x0, x1, x2]; try rfl) rfl ?_
       refine ro_fin (by omega) Hx2.out q2 kk2 hF hgF ?_ ?_)
    | (refine fin3 kk1 fun F hF hgF x0 x1 x2 => ?_
       refine bodyPost_ret (by simp [results, Try.results104, go_sem, x0, x1, x2]; try rfl) rfl ?_
       refine ro_fin (by omega) Hx1.out q1 kk1 hF hgF ?_ ?_)
    | (go_returns
       refine ro_same H.out (by go_grown) ?_ ?_)
    all_goals go_light
    all_goals try simp only [beq_iff_eq, beq_eq_false_iff_ne, ne_eq] at *
    all_goals unfold rProgram
    all_goals try dsimp only
    all_goals (repeat (first | rw [if_pos (by first | decide | omega | (simp; done) | (simp; omega))] | rw [if_neg (by first | decide | omega | (simp; done) | (simp; omega))]))
    all_goals first | rfl | (simp; done) | (rw [Bool.eq_iff_iff]; simp; omega) | (have e := Hst.out; generalize st.tail = r at *; subst e; rfl)
    )
end Go.Proofs.Ytjkiapgboljabaa
