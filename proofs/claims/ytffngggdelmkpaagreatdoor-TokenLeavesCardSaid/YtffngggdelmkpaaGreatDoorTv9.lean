/- TokenLeaves: the walk. The leaves of any text's tokens are as the document says. -/
import Derived.Test.YtffngggdelmkpaaGreatDoorAw9
import Derived.Test.YtffngggdelmkpaaGreatDoorLv9
namespace Go.Proofs.YtffngggdelmkpaaGreatDoor
open Go.RowKit
set_option linter.unusedVariables false
set_option linter.unusedSimpArgs false
set_option maxRecDepth 100000
theorem lvsL_len (l : List UInt8) : (lvsL l).length ≤ l.length := by
  have h1 := leavesZ_len l ((lexL l).1.map tz)
  have h2 := lexL_len l
  unfold lvsL
  rw [List.length_map] at h1
  omega
/-- token.Leaves, of a text's own tokens. -/
theorem leaves_tk (l : List UInt8) (ts : List Tk) (hts : ts = (lexL l).1) (hl : l.length ≤ 900) (A : Option Addr) (c : Nat) (W : World) (hR : Rd W W.heap.size 4 (.slice A ts.length c) ts.length (tkcs ts)) :
    Calls Tryz.prog 19 #[.string ⟨l.toArray⟩, .slice A ts.length c] W fun e w' => ∃ v, e = .returned v ∧ w'.ownsRow W.heap.size 41 4 v (lvsL l).length (lfcs (lvsL l)) ∧ Below W.heap.size W w' := by
  have h2 := lexL_len l
  rw [← hts] at h2
  have h := leaves_z l (ts.map tz) A c W (by omega) (by rw [List.length_map]; omega) (by rw [List.length_map, ← tkcs_tz]; exact hR)
  rw [List.length_map] at h
  unfold lvsL
  rw [← hts]
  exact h
set_option maxHeartbeats 4000000 in
theorem tokenLeaves_w (l : List UInt8) (w : World) (hm : l.length ≤ 9223372036854775807) :
    Calls Tryz.prog 5 #[.string ⟨l.toArray⟩] w fun e w' => e = .returned (.bool true) ∧ Below w.heap.size w w' := by
  go_enter Tryz.func5, Tryz.ntmps5
  by_cases h150 : (150 : Int) < (l.length : Int)
  · go_wp2_with (
      (go_at_call 12
       refine (awake9_c _).mono ?_
       rintro e w1 ⟨rfl, hb⟩
       have H := Lib.hid hb
       clear hb))
    go_ret
    exact ⟨rfl, H.out⟩
  · have hl : l.length ≤ 900 := by omega
    have tlen := lexL_len l
    have llen := lvsL_len l
    obtain ⟨ts, hts⟩ : ∃ ts, ts = (lexL l).1 := ⟨_, rfl⟩
    obtain ⟨Y, hY⟩ : ∃ Y, Y = (lexL l).2 := ⟨_, rfl⟩
    have c1 : ∀ W, Calls Tryz.prog 13 #[.string ⟨l.toArray⟩] W fun e w' => ∃ v1 v2, e = .returned (.tuple #[v1, v2]) ∧ w'.ownsRow W.heap.size 33 4 v1 ts.length (tkcs ts) ∧ LxP w' Y v2 ∧ Below W.heap.size W w' := fun W => by rw [hts, hY]; exact lex_m l W hl
    have c2 := fun A c W => leaves_tk l ts hts hl A c W
    have c3 := fun W => rleaves_m l W hl
    generalize lvsL l = L at c2 c3 llen
    rw [← hts] at tlen
    clear hts hY
    have HC := Lib.hid (And.intro c1 (And.intro c2 c3))
    clear c1 c2 c3
    go_wp2_with (first
      | (go_at_call 12
         refine (awake9_c _).mono ?_
         rintro e w1 ⟨rfl, hb⟩
         have H := Lib.hid hb
         clear hb)
      | (go_at_call 13
         with_reducible refine (HC.out.1 _).mono ?_
         rintro e w2 ⟨v1, v2, rfl, ho, ⟨v3, rfl, hr⟩, hb2⟩
         obtain ⟨A3, c3, rfl⟩ := hr.form
         unfold lxv
         obtain ⟨A, n, c, rfl⟩ := own_form' ho
         obtain rfl := own_len ho
         have H2 := Lib.hid (And.intro ho (H.out.trans (hb2.mono H.out.size)))
         clear ho hb2 hr)
      | (go_at_call 19
         with_reducible refine (HC.out.2.1 _ _ _ ?_).mono ?_
         · exact Rd.of_own (H2.out.1.alloc _)
         rintro e w4 ⟨v, rfl, ho, hb4⟩
         obtain ⟨A4, n, c4, rfl⟩ := own_form' ho
         obtain rfl := own_len ho
         have hbx := H2.out.2.alloc H2.out.2.size (.cells #[.int .i64 Y.aw, .slice A3 Y.pd.length c3, .bool Y.bd] 26)
         have H4 := Lib.hid (And.intro ho (hbx.trans (hb4.mono hbx.size)))
         clear ho hb4 hbx)
      | (go_at_call 20
         with_reducible refine (HC.out.2.2 _).mono ?_
         rintro e w6 ⟨v, rfl, ho, hb6⟩
         obtain ⟨A6, n, c6, rfl⟩ := own_form' ho
         obtain rfl := own_len ho
         have H6 := Lib.hid (And.intro (Rd.of_own (own_below H4.out.1 hb6)) (And.intro (Rd.of_own ho) (H4.out.2.trans (hb6.mono H4.out.2.size))))
         clear ho hb6))
    go_loopw [7] (fun i wr => ∃ k : Nat, k ≤ L.length ∧ i = .int .i64 k ∧ Below w6.heap.size w6 wr) (fun i _ => L.length - (intOf i).toNat)
    case atStart => exact ⟨0, Nat.zero_le _, rfl, Below.refl _ _⟩
    case round =>
      obtain ⟨k, hk, rfl, hb⟩ := hrel
      by_cases hlt : k < L.length
      · have u1 : (k : Int) < (L.length : Int) := by omega
        have u2 : (0 : Int) ≤ (k : Int) := by omega
        obtain ⟨t, ht⟩ : ∃ t, L[k]? = some t := ⟨_, List.getElem?_eq_getElem hlt⟩
        obtain ⟨g, o, rfl, _, hc⟩ := rd_sat lfc_len (H6.out.1.keep hb (Nat.le_refl _)) ht rfl
        obtain ⟨g', o', rfl, _, hc'⟩ := rd_sat lfc_len (H6.out.2.1.keep hb (Nat.le_refl _)) ht rfl
        have y0 : wr.cell? ⟨g, o + k * 4, none⟩ = some (.int .i64 t.kd) := hc 0 _ rfl
        have y1 : wr.cell? ⟨g, o + k * 4 + 1, none⟩ = some (.string ⟨t.tx.toArray⟩) := hc 1 _ rfl
        have y2 : wr.cell? ⟨g, o + k * 4 + 2, none⟩ = some (.int .i64 t.fr) := hc 2 _ rfl
        have y3 : wr.cell? ⟨g, o + k * 4 + 3, none⟩ = some (.int .i64 t.to) := hc 3 _ rfl
        have z0 : wr.cell? ⟨g', o' + k * 4, none⟩ = some (.int .i64 t.kd) := hc' 0 _ rfl
        have z1 : wr.cell? ⟨g', o' + k * 4 + 1, none⟩ = some (.string ⟨t.tx.toArray⟩) := hc' 1 _ rfl
        have z2 : wr.cell? ⟨g', o' + k * 4 + 2, none⟩ = some (.int .i64 t.fr) := hc' 2 _ rfl
        have z3 : wr.cell? ⟨g', o' + k * 4 + 3, none⟩ = some (.int .i64 t.to) := hc' 3 _ rfl
        have HB := Lib.hid hb
        clear hb hc hc' ht
        go_wp2_with fail
        go_quiet (fail)
        go_wp2_with fail
        exact ⟨⟨k + 1, by omega, by go_num, below_drewN' HB.out _⟩, by simp [intOf] <;> omega⟩
      · obtain rfl : k = L.length := by omega
        have HB := Lib.hid hb
        clear hb
        go_wp2_with fail
        go_ret
        exact ⟨rfl, H6.out.2.2.trans (HB.out.mono H6.out.2.2.size)⟩
end Go.Proofs.YtffngggdelmkpaaGreatDoor
