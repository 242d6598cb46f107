/- quillwortlaw09.awake. -/
import Derived.Test.YtffngggdelmkpaaGreatDoorLx9
namespace Go.Proofs.YtffngggdelmkpaaGreatDoor
open Go.RowKit
set_option linter.unusedVariables false
set_option linter.unusedSimpArgs false
set_option maxRecDepth 100000
def awk9 : List UInt8 := [99, 97, 116, 32, 60, 60, 69, 10, 120, 10, 69]
theorem lex_awake : (lexL awk9).1 = [⟨6, 0, 3, false⟩, ⟨1, 3, 4, false⟩, ⟨4, 4, 6, false⟩, ⟨6, 6, 7, false⟩, ⟨2, 7, 8, false⟩, ⟨7, 8, 11, false⟩] := by kernel_rfl
set_option maxHeartbeats 1000000 in
theorem awake9_c (w : World) : Calls Tryz.prog 12 #[] w fun e w' => e = .returned (.bool true) ∧ Below w.heap.size w w' := by
  have hm : ∀ W, Calls Tryz.prog 13 #[.string ⟨#[99, 97, 116, 32, 60, 60, 69, 10, 120, 10, 69]⟩] W fun e w' => ∃ v1 v2, e = .returned (.tuple #[v1, v2]) ∧ w'.ownsRow W.heap.size 33 4 v1 6 (tkcs [⟨6, 0, 3, false⟩, ⟨1, 3, 4, false⟩, ⟨4, 4, 6, false⟩, ⟨6, 6, 7, false⟩, ⟨2, 7, 8, false⟩, ⟨7, 8, 11, false⟩]) ∧ LxP w' (lexL awk9).2 v2 ∧ Below W.heap.size W w' := by
    intro W
    have h := lex_m awk9 W (by decide)
    rw [lex_awake] at h
    exact h
  obtain ⟨Y, hY⟩ : ∃ Y, Y = (lexL awk9).2 := ⟨_, rfl⟩
  rw [← hY] at hm
  clear hY
  have HM := Lib.hid hm
  clear hm
  go_enter Tryz.func12, Tryz.ntmps12
  go_wp2_with (go_at_call 13
               refine (HM.out _).mono ?_
               rintro e w1 ⟨v1, v2, rfl, ho, ⟨v3, rfl, hr⟩, hb⟩
               obtain ⟨A3, c3, rfl⟩ := hr.form
               unfold lxv
               obtain ⟨A, n, c, rfl⟩ := own_form' ho
               obtain rfl := own_len ho
               obtain ⟨g, rfl⟩ := own_at ho (by decide)
               have hg : g < w1.heap.size := (ho.lt g rfl).2
               have y0 : w1.cell? ⟨g, 20, none⟩ = some (.int .i64 7) := own_cell ho 20 _ rfl
               have y1 : w1.cell? ⟨g, 21, none⟩ = some (.int .i64 8) := own_cell ho 21 _ rfl
               have y2 : w1.cell? ⟨g, 22, none⟩ = some (.int .i64 11) := own_cell ho 22 _ rfl
               have y3 : w1.cell? ⟨g, 23, none⟩ = some (.bool false) := own_cell ho 23 _ rfl
               have H := Lib.hid (And.intro ho hb)
               clear ho hb)
  go_ret
  exact ⟨rfl, H.out.2.alloc H.out.2.size _⟩
theorem tkcs_at : ∀ (ts : List Tk) (k : Nat) (t : Tk) (j : Nat), j < 4 → ts[k]? = some t → (tkcs ts)[4 * k + j]? = (tkc t)[j]?
  | [], k, t, j, hj, h => by simp at h
  | a :: r, 0, t, j, hj, h => by
    simp at h
    subst h
    show (tkc a ++ tkcs r)[4 * 0 + j]? = _
    rw [List.getElem?_append_left (by show 4 * 0 + j < 4; omega)]
    simp
  | a :: r, k + 1, t, j, hj, h => by
    show (tkc a ++ tkcs r)[4 * (k + 1) + j]? = _
    rw [List.getElem?_append_right (by show 4 ≤ 4 * (k + 1) + j; omega), show 4 * (k + 1) + j - (tkc a).length = 4 * k + j by show 4 * (k + 1) + j - 4 = _; omega]
    exact tkcs_at r k t j hj (by simpa using h)
theorem own_tk {w : World} {B n c : Nat} {A : Option Addr} {ts : List Tk} (ho : w.ownsRow B 33 4 (.slice A n c) n (tkcs ts)) {k : Nat} {t : Tk} (h : ts[k]? = some t) (hk : k < n) :
    ∃ g, A = some ⟨g, 0, none⟩ ∧ w.cell? ⟨g, k * 4, none⟩ = some (.int .i64 (t.kd : Int)) ∧ w.cell? ⟨g, k * 4 + 1, none⟩ = some (.int .i64 (t.fr : Int)) ∧ w.cell? ⟨g, k * 4 + 2, none⟩ = some (.int .i64 (t.to : Int)) ∧ w.cell? ⟨g, k * 4 + 3, none⟩ = some (.bool t.op) := by
  obtain ⟨g, rfl⟩ := own_at ho (by omega)
  refine ⟨g, rfl, ?_, ?_, ?_, ?_⟩
  · rw [Nat.mul_comm]; exact own_cell ho (4 * k + 0) (.int .i64 (t.kd : Int)) (by rw [tkcs_at ts k t 0 (by omega) h]; rfl)
  · rw [Nat.mul_comm]; exact own_cell ho (4 * k + 1) (.int .i64 (t.fr : Int)) (by rw [tkcs_at ts k t 1 (by omega) h]; rfl)
  · rw [Nat.mul_comm]; exact own_cell ho (4 * k + 2) (.int .i64 (t.to : Int)) (by rw [tkcs_at ts k t 2 (by omega) h]; rfl)
  · rw [Nat.mul_comm]; exact own_cell ho (4 * k + 3) (.bool t.op) (by rw [tkcs_at ts k t 3 (by omega) h]; rfl)
end Go.Proofs.YtffngggdelmkpaaGreatDoor
