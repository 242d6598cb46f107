/- The reference's Step, First and Run (quillwortref06): behind a text stands rAt. -/
import Derived.Test.YtjkiapgboljabaaRefS2
import Derived.Test.YtjkiapgboljabaaPl06b
namespace Go.Proofs.Ytjkiapgboljabaa
open Go.RowKit
set_option linter.unusedVariables false
set_option linter.unusedSimpArgs false
set_option maxRecDepth 100000
theorem step_r (S : List UInt8) (A : Option Addr) (n k : Nat) (st : Stk) (f : Bool) (b : UInt8) (at_ : Int) (w : World) (h : Rs w S A n k st) (hbot : Bot st) (hl : st.length ≤ 990) :
    Calls Try.prog 50 #[.agg #[.string ⟨S.toArray⟩, .slice A n k, .bool f], .int .u8 (b.toNat : Int), .int .i64 at_] w (Ro w (rStep st f b at_).1 (rStep st f b at_).2) := by
  match st, hbot with
  | (c, p) :: r, hbot =>
    simp only [List.length_cons] at hl
    rcases Decidable.em (c = 76) with rfl | h76
    · match r, hbot with
      | [], hbot => exact absurd hbot.single (by decide)
      | (d, q) :: r2, _ =>
        simp only [List.length_cons] at hl
        rcases Decidable.em (b = 40) with rfl | hb40
        · exact st_76_40 S A n k f at_ p w _ (by simp; omega) h
        rcases Decidable.em (b = 36) with rfl | hb36
        · exact st_76_36 S A n k f at_ p w _ (by simp; omega) h
        rcases Decidable.em (b = 123) with rfl | hb123
        · rcases Decidable.em (d = 68) with rfl | hd68
          · exact st_76_123a S A n k f at_ p w r2 q (by omega) h
          rcases Decidable.em (d = 73) with rfl | hd73
          · exact st_76_123b S A n k f at_ p w r2 q (by omega) h
          exact st_76_123c S A n k f at_ p w r2 q (by omega) d (bf d 68 hd68) (bf d 73 hd73) h
        exact st_76_x S A n k f at_ p w r2 q (by omega) d b (bf b 40 hb40) (bf b 123 hb123) (bf b 36 hb36) h
    rcases Decidable.em (c = 79) with rfl | h79
    · rcases Decidable.em (b = 40) with rfl | hb40
      · exact st_79_40 S A n k f at_ p w r (by omega) h
      exact st_79_x S A n k f at_ p w r (by omega) b (bf b 40 hb40) h
    rcases Decidable.em (c = 69) with rfl | h69
    · rcases Decidable.em (b = 41) with rfl | hb41
      · exact st_69_41 S A n k f at_ p w r (by omega) h
      exact st_69_x S A n k f at_ p w r (by omega) b (bf b 41 hb41) h
    exact st_e S A n k f at_ p w r (by omega) c b (bf c 76 h76) (bf c 79 h79) (bf c 69 h69) h
theorem rt_new (w : World) (cs : List Value) (t : TypeId) (sz m : Nat) (hl : cs.length = m * sz) (hm : m ≤ 1000) : Rt (w.alloc (.cells cs.toArray t)) t sz (.slice (some ⟨w.heap.size, 0, none⟩) m m) m cs := by
  refine ⟨hl, _, _, rfl, Nat.le_refl _, by unfold maxLen; omega, by simp, fun _ => ⟨w.heap.size, 0, cs.toArray, (0, 0), rfl, Bk.new w t cs.toArray, fun j u hj => ?_⟩⟩
  rw [Nat.zero_add, Bk.cell (Bk.new w t cs.toArray)]
  simpa using hj
theorem first_r (w : World) : Calls Try.prog 49 #[] w (Ro w [(84, 0)] true) := by
  go_enter Try.func49, Try.ntmps49
  go_wp2
  go_returns
  refine ⟨[84], _, 1, 1, rfl, ⟨rfl, rfl, ?_⟩, by go_grown⟩
  have := rt_new (w.alloc (.cells #[Value.string { data := #[84] }, Value.slice (some { block := w.heap.size + 1, off := 0 }) 1 1, Value.bool true] 30)) [.int .i64 0] 3 1 1 rfl (by omega)
  simpa [rP] using this
theorem set3 {w : World} {c : Nat} {t : TypeId} {u0 u1 u2 v0 v1 v2 : Value} (hb : Bk w c t #[u0, u1, u2]) :
    Bk (((w.setCell ⟨c, 0, none⟩ v0).setCell ⟨c, 1, none⟩ v1).setCell ⟨c, 2, none⟩ v2) c t #[v0, v1, v2] ∧ w.grownBy (((w.setCell ⟨c, 0, none⟩ v0).setCell ⟨c, 1, none⟩ v1).setCell ⟨c, 2, none⟩ v2) (some c) :=
  ⟨by simpa using ((hb.set 0 v0).set 1 v1).set 2 v2, grown_set (grown_set (grown_set (grown_refl _ _) _ _) _ _) _ _⟩
/-- A state in a variable's block. -/
def RunRel (w wr : World) (bx : Nat) (l : List UInt8) (k : Nat) : Prop :=
  ∃ S A n c, Bk wr bx 30 #[.string ⟨S.toArray⟩, .slice A n c, .bool (rAt l k).2] ∧ Rs wr S A n c (rAt l k).1 ∧ Below w.heap.size w wr ∧
    Bk wr w.heap.size 30 #[.string ⟨#[]⟩, .slice none 0 0, .bool false]
theorem runRel_next {w wr w2 : World} {bx : Nat} {l : List UInt8} {k : Nat} {cs : Value × Value × Value} {S2 : List UInt8} {A2 : Option Addr} {n2 c2 : Nat} (hlt : k < l.length) (kk : Bk w2 bx 30 #[cs.1, cs.2.1, cs.2.2])
    (hx : Rs w2 S2 A2 n2 c2 (rStep (rAt l k).1 (rAt l k).2 ((ByteArray.mk l.toArray)[k]'hlt) k).1) (hbel : Below w.heap.size w wr) (hb2 : Below wr.heap.size wr w2)
    (hres : Bk wr w.heap.size 30 #[.string ⟨#[]⟩, .slice none 0 0, .bool false]) (hne : w.heap.size < bx) :
    RunRel w (((w2.setCell ⟨bx, 0, none⟩ (.string ⟨S2.toArray⟩)).setCell ⟨bx, 1, none⟩ (.slice A2 n2 c2)).setCell ⟨bx, 2, none⟩ (.bool (rStep (rAt l k).1 (rAt l k).2 ((ByteArray.mk l.toArray)[k]'hlt) k).2)) bx l (k + 1) := by
  have e : rAt l (k + 1) = rStep (rAt l k).1 (rAt l k).2 ((ByteArray.mk l.toArray)[k]'hlt) k := by
    show rStep _ _ (l.getD k 0) _ = _
    rw [ba_get, List.getD_eq_getElem?_getD, List.getElem?_eq_getElem hlt]
    rfl
  obtain ⟨hF, hgF⟩ := set3 kk (v0 := .string ⟨S2.toArray⟩) (v1 := .slice A2 n2 c2) (v2 := .bool (rStep (rAt l k).1 (rAt l k).2 ((ByteArray.mk l.toArray)[k]'hlt) k).2)
  rw [← e] at hx hF hgF ⊢
  have hb := hbel.trans (hb2.mono hbel.size)
  exact ⟨S2, A2, n2, c2, hF, ⟨hx.1, hx.2.1, hx.2.2.keep hgF (kk.row (by decide))⟩, hb.grown hgF hb.size (by intro j hj; injection hj with hj; omega),
    (hres.below hb2 hres.lt).grown hgF (by simp; omega)⟩
theorem run_r (l : List UInt8) (w : World) (hl : l.length ≤ 900) : Calls Try.prog 19 #[.string ⟨l.toArray⟩] w (Ro w (rAt l l.length).1 (rAt l l.length).2) := by
  go_enter Try.func19, Try.ntmps19
  go_wp2_with (go_at_call 49; refine (first_r _).mono ?_
               rintro e w1 ⟨S1, A1, n1, k1, rfl, hx1, hb1⟩)
  have H1 := Lib.hid (And.intro hx1 hb1)
  have hw1 : w.heap.size + 1 ≤ w1.heap.size := by have := hb1.size; simpa using this
  clear hx1 hb1
  generalize hbx : w1.heap.size = bx at *
  have HBX := Lib.hid hbx
  clear hbx
  go_loopw [4] (fun i wr => ∃ k : Nat, k ≤ l.length ∧ i = .int .i64 k ∧ RunRel w wr bx l k) (fun i _ => l.length - (intOf i).toNat)
  case atStart =>
    obtain ⟨hx1, hb1⟩ := H1.out
    have e := HBX.out
    subst e
    have hb0 : Below w.heap.size w w1 := below_next (by go_grown) hb1
    refine ⟨0, by omega, rfl, S1, A1, n1, k1, Bk.new _ _ _, hx1.next (by go_grown), hb0.alloc hb0.size _, ?_⟩
    exact ((Bk.new w 30 _).below hb1 (by simp)).alloc _
  case round =>
    obtain ⟨k, hk, rfl, S, A, n, c, hbk, hrs, hbel, hres⟩ := hrel
    have hbot := rAt_bot l k
    have hlen := rAt_len l k
    obtain ⟨y0, y1, y2, z0, z1, z2⟩ := hbk.three
    have HR := Lib.hid (And.intro hrs (And.intro hbel (And.intro hres (And.intro hbk hbot))))
    clear hrs hbel hres hbk hbot
    by_cases hlt : k < l.length
    · have hi0 : (0 : Int) ≤ (k : Int) := by omega
      have hi1 : (k : Int) < (l.length : Int) := by omega
      go_wp2_with fail
      go_region_with (first
        | (go_at_call 50
           refine (step_r S A n c _ _ _ _ _ (HR.out.1.next (by go_grown)) HR.out.2.2.2.2 (by omega)).mono ?_
           rintro e w2 ⟨S2, A2, n2, c2, rfl, hx2, hb2⟩
           have hb2' : Below wr.heap.size wr w2 := below_next (by go_grown) hb2
           have kk := HR.out.2.2.2.1.below hb2' HR.out.2.2.2.1.lt
           obtain ⟨v0, v1, v2, g0, g1, g2⟩ := kk.three
           have H2 := Lib.hid (And.intro hx2 hb2')
           clear hx2 hb2 hb2'))
      all_goals go_wp2
      all_goals go_roundw
      all_goals first
        | (simp [intOf]; omega)
        | exact ⟨k + 1, by omega, by go_num, runRel_next (cs := (_, _, _)) hlt kk H2.out.1 HR.out.2.1 H2.out.2 HR.out.2.2.1 (by omega)⟩
    · obtain ⟨x0, x1, x2, x3, x4, x5⟩ := HR.out.2.2.1.three
      go_wp2
      refine fin3 HR.out.2.2.1 fun F hF hgF x0 x1 x2 => ?_
      refine bodyPost_ret (by simp [results, Try.results19, go_sem, x0, x1, x2]; try rfl) rfl ?_
      have e : k = l.length := by omega
      subst e
      exact ro_fin (Nat.le_refl _) HR.out.1 HR.out.2.1 HR.out.2.2.1 hF hgF rfl rfl
end Go.Proofs.Ytjkiapgboljabaa
