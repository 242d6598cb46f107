/- TokenLex: the walk. The tokens of any text, and what the next one would hang on, are as the document says. -/
import Derived.Test.YtffngggdelmkpaaGreatDoorAw9
import Derived.Test.YtffngggdelmkpaaGreatDoorTp9
import Derived.Test.YtffngggdelmkpaaGreatDoorRl9
import Derived.Test.YtffngggdelmkpaaGreatDoorSk9
import Derived.Test.YtffngggdelmkpaaGreatDoorSm9
namespace Go.Proofs.YtffngggdelmkpaaGreatDoor
open Go.RowKit
set_option linter.unusedVariables false
set_option linter.unusedSimpArgs false
set_option maxRecDepth 100000
set_option maxHeartbeats 4000000 in
theorem tokenLex_w (l : List UInt8) (w : World) (hm : l.length ≤ 9223372036854775807) :
    Calls Tryz.prog 3 #[.string ⟨l.toArray⟩] w fun e w' => e = .returned (.bool true) ∧ Below w.heap.size w w' := by
  go_enter Tryz.func3, Tryz.ntmps3
  by_cases h150 : (150 : Int) < (l.length : Int)
  · go_wp2_with (
      (go_at_call 12
       refine (awake9_c _).mono ?_
       rintro e w1 ⟨rfl, hb⟩
       have H := Lib.hid hb
       clear hb))
    go_ret
    exact ⟨rfl, H.out⟩
  · have hl : l.length ≤ 900 := by omega
    have tlen := lexL_len l
    have hpl : (lexL l).2.pd.length ≤ 9223372036854775807 := Nat.le_trans (lexL_pd l) (by omega)
    obtain ⟨ts, hts⟩ : ∃ ts, ts = (lexL l).1 := ⟨_, rfl⟩
    obtain ⟨Y, hY⟩ : ∃ Y, Y = (lexL l).2 := ⟨_, rfl⟩
    have c1 : ∀ W, Calls Tryz.prog 13 #[.string ⟨l.toArray⟩] W fun e w' => ∃ v1 v2, e = .returned (.tuple #[v1, v2]) ∧ w'.ownsRow W.heap.size 33 4 v1 ts.length (tkcs ts) ∧ LxP w' Y v2 ∧ Below W.heap.size W w' := fun W => by rw [hts, hY]; exact lex_m l W hl
    have c2 : ∀ W, Calls Tryz.prog 14 #[.string ⟨l.toArray⟩] W fun e w' => ∃ v1 v2, e = .returned (.tuple #[v1, v2]) ∧ w'.ownsRow W.heap.size 33 4 v1 ts.length (tkcs ts) ∧ LxP w' Y v2 ∧ Below W.heap.size W w' := fun W => by rw [hts, hY]; exact rlex_m l W hl
    rw [← hts] at tlen
    rw [← hY] at hpl
    clear hts hY
    have HC := Lib.hid (And.intro c1 (And.intro c2 hpl))
    clear c1 c2 hpl
    go_wp2_with (first
      | (go_at_call 12
         refine (awake9_c _).mono ?_
         rintro e w1 ⟨rfl, hb⟩
         have H := Lib.hid hb
         clear hb)
      | (go_at_call 13
         with_reducible refine (HC.out.1 _).mono ?_
         rintro e w2 ⟨v1, v2, rfl, ho, ⟨v3, rfl, hr⟩, hb2⟩
         obtain ⟨A3, c3, rfl⟩ := hr.form
         unfold lxv
         obtain ⟨A, n, c, rfl⟩ := own_form' ho
         obtain rfl := own_len ho
         have H2 := Lib.hid (And.intro ho (And.intro hr (H.out.trans (hb2.mono H.out.size))))
         clear ho hb2 hr)
      | (go_at_call 14
         with_reducible refine (HC.out.2.1 _).mono ?_
         rintro e w4 ⟨v1, v2, rfl, ho, ⟨v3, rfl, hr⟩, hb4⟩
         obtain ⟨A5, c5, rfl⟩ := hr.form
         unfold lxv
         obtain ⟨A4, n, c4, rfl⟩ := own_form' ho
         obtain rfl := own_len ho
         have H4 := Lib.hid (And.intro ho (And.intro hr hb4))
         clear ho hb4 hr)
      | (go_at_call 15
         refine (samet_m ts A A4 c c4 _ (by omega) (Rd.of_own ((own_below (H2.out.1.alloc _) H4.out.2.2).alloc _)) (Rd.of_own (H4.out.1.alloc _))).mono ?_
         rintro e w6 ⟨rfl, hb6⟩
         have k4 := ((Bk.new w2 _ _).below H4.out.2.2 (by simp)).alloc (.cells #[.int .i64 Y.aw, .slice A5 Y.pd.length c5, .bool Y.bd] 26)
         have k4 := k4.below hb6 k4.lt
         have k6 := (Bk.new w4 26 #[.int .i64 Y.aw, .slice A5 Y.pd.length c5, .bool Y.bd]).below hb6 (by simp)
         obtain ⟨p0, p1, p2, _⟩ := k4.three
         obtain ⟨q0, q1, q2, _⟩ := k6.three
         have r3 := ((((H2.out.2.1.next (Below.alloc (Below.refl _ _) (Nat.le_refl _) _)).next H4.out.2.2).next (Below.alloc (Below.refl _ _) (Nat.le_refl _) _)).next hb6).rd
         have r5 := ((H4.out.2.1.next (Below.alloc (Below.refl _ _) (Nat.le_refl _) _)).next hb6).rd
         have hb2a := H2.out.2.2.alloc H2.out.2.2.size (.cells #[.int .i64 Y.aw, .slice A3 Y.pd.length c3, .bool Y.bd] 26)
         have hb4a := hb2a.trans (H4.out.2.2.mono hb2a.size)
         have hb4b := hb4a.alloc hb4a.size (.cells #[.int .i64 Y.aw, .slice A5 Y.pd.length c5, .bool Y.bd] 26)
         have H6 := Lib.hid (And.intro r3 (And.intro r5 (hb4b.trans (hb6.mono hb4b.size))))
         clear hb6 k4 k6 r3 r5 hb2a hb4a hb4b)
      | (go_at_call 16
         refine (same9_r Y Y A3 A5 c3 c5 _ H6.out.1 H6.out.2.1 HC.out.2.2 HC.out.2.2).mono ?_
         rintro e w7 ⟨he, hb7⟩
         rw [(sameL_iff Y Y).2 rfl] at he
         subst he
         have H7 := Lib.hid (H6.out.2.2.trans (hb7.mono H6.out.2.2.size))
         clear hb7))
    go_ret
    exact ⟨rfl, H7.out⟩
end Go.Proofs.YtffngggdelmkpaaGreatDoor
