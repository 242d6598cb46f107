/- quillwortlaw09.awake. -/
import Derived.Test.YtffngggdelmkpaaGreatDoorLx9
namespace Go.Proofs.YtffngggdelmkpaaGreatDoor
open Go.RowKit
set_option linter.unusedVariables false
set_option linter.unusedSimpArgs false
set_option maxRecDepth 100000
def awk9 : List UInt8 := [99, 97, 116, 32, 60, 60, 69, 10, 120, 10, 69]
theorem lex_awake : (lexL awk9).1 = [⟨6, 0, 3, false⟩, ⟨1, 3, 4, false⟩, ⟨4, 4, 6, false⟩, ⟨6, 6, 7, false⟩, ⟨2, 7, 8, false⟩, ⟨7, 8, 11, false⟩] := by kernel_rfl
set_option maxHeartbeats 1000000 in
theorem awake9_c (w : World) : Calls Tryz.prog 12 #[] w fun e w' => e = .returned (.bool true) ∧ Below w.heap.size w w' := by
  have hm : ∀ W, Calls Tryz.prog 13 #[.string ⟨#[99, 97, 116, 32, 60, 60, 69, 10, 120, 10, 69]⟩] W fun e w' => ∃ v1 v2, e = .returned (.tuple #[v1, v2]) ∧ w'.ownsRow W.heap.size 33 4 v1 6 (tkcs [⟨6, 0, 3, false⟩, ⟨1, 3, 4, false⟩, ⟨4, 4, 6, false⟩, ⟨6, 6, 7, false⟩, ⟨2, 7, 8, false⟩, ⟨7, 8, 11, false⟩]) ∧ LxP w' (lexL awk9).2 v2 ∧ Below W.heap.size W w' := by
    intro W
    have h := lex_m awk9 W (by decide)
    rw [lex_awake] at h
    exact h
  obtain ⟨Y, hY⟩ : ∃ Y, Y = (lexL awk9).2 := ⟨_, rfl⟩
  rw [← hY] at hm
  clear hY
  have HM := Lib.hid hm
  clear hm
  go_enter Tryz.func12, Tryz.ntmps12
  go_wp2_with (go_at_call 13
               refine (HM.out _).mono ?_
               rintro e w1 ⟨v1, v2, rfl, ho, ⟨v3, rfl, hr⟩, hb⟩
               obtain ⟨A3, c3, rfl⟩ := hr.form
               unfold lxv
               obtain ⟨A, n, c, rfl⟩ := own_form' ho
               obtain rfl := own_len ho
               obtain ⟨g, rfl⟩ := own_at ho (by decide)
               have hg : g < w1.heap.size := (ho.lt g rfl).2
               have y0 : w1.cell? ⟨g, 20, none⟩ = some (.int .i64 7) := own_cell ho 20 _ rfl
               have y1 : w1.cell? ⟨g, 21, none⟩ = some (.int .i64 8) := own_cell ho 21 _ rfl
               have y2 : w1.cell? ⟨g, 22, none⟩ = some (.int .i64 11) := own_cell ho 22 _ rfl
               have y3 : w1.cell? ⟨g, 23, none⟩ = some (.bool false) := own_cell ho 23 _ rfl
               have H := Lib.hid (And.intro ho hb)
               clear ho hb)
  go_ret
  exact ⟨rfl, H.out.2.alloc H.out.2.size _⟩
end Go.Proofs.YtffngggdelmkpaaGreatDoor
