/- The program's machine: what opens in most modes (modes.inner). -/
import Derived.Test.YtjkiapgboljabaaMo0
namespace Go.Proofs.Ytjkiapgboljabaa
open Go.RowKit
set_option linter.unusedVariables false
set_option linter.unusedSimpArgs false
set_option maxRecDepth 100000
theorem Mach.cells {w : World} {B b : Nat} {st : Stk} {f : Bool} {at_ : Int} (h : Mach w B b st f at_) : w.cell? ⟨b, 1, none⟩ = some (.bool f) ∧ w.cell? ⟨b, 2, none⟩ = some (.int .i64 at_) ∧ w.frozen? ⟨b, 1, none⟩ = false ∧ w.frozen? ⟨b, 2, none⟩ = false ∧ b < w.heap.size := by
  obtain ⟨_, g, cap, h2, _⟩ := h
  exact ⟨by rw [h2.cell]; rfl, by rw [h2.cell]; rfl, h2.frozen _, h2.frozen _, h2.lt⟩
theorem open_k (B b : Nat) (st : Stk) (f : Bool) (at_ : Int) (d : UInt8) (m : Int) (w : World) (hm : m = modeOf d) (h : Mach w B b st f at_) (hne : st ≠ []) (hl : st.length ≤ 100000) :
    Calls Try.prog 97 #[.pointer (some ⟨b, 0, none⟩), .int .i64 m] w (Mo w B b (.tuple #[]) ((d, at_) :: st) f at_) := by
  subst hm; exact open_m B b st f at_ d w h hne (by omega)
theorem become_k (B b : Nat) (st : Stk) (f : Bool) (at_ p : Int) (c d : UInt8) (m : Int) (w : World) (hm : m = modeOf d) (h : Mach w B b ((c, p) :: st) f at_) :
    Calls Try.prog 72 #[.pointer (some ⟨b, 0, none⟩), .int .i64 m] w (Mo w B b (.tuple #[]) ((d, p) :: st) f at_) := by
  subst hm; exact become_m B b st f at_ p c d w h
set_option maxHeartbeats 1000000 in
theorem inner_92 (B b : Nat) (st : Stk) (f : Bool) (at_ : Int) (w : World) (h : Mach w B b st f at_) (hne : st ≠ []) (hl : st.length ≤ 100000) :
    Calls Try.prog 110 #[.pointer (some ⟨b, 0, none⟩), .int .u8 ((92 : UInt8).toNat : Int)] w (Mo w B b (.bool true) ((88, at_) :: st) f at_) := by
  obtain ⟨x0, x1, x2, x3, x4⟩ := h.cells
  have HM := Lib.hid h
  clear h
  go_enter Try.func110, Try.ntmps110
  go_wp2_with (first
    | (go_at_call 97
       with_reducible refine (open_k B b _ _ _ 88 13 _ rfl HM.out hne hl).mono ?_
       rintro e w1 ⟨rfl, hm1, hb1⟩
       obtain ⟨x0, x1, x2, x3, x4⟩ := hm1.cells
       have q1 : BM B w w1 := hb1
       have HM1 := Lib.hid hm1
       clear hm1))
  go_ret
  exact mo_mk HM1.out q1 rfl rfl

set_option maxHeartbeats 1000000 in
theorem inner_36 (B b : Nat) (st : Stk) (f : Bool) (at_ : Int) (w : World) (h : Mach w B b st f at_) (hne : st ≠ []) (hl : st.length ≤ 100000) :
    Calls Try.prog 110 #[.pointer (some ⟨b, 0, none⟩), .int .u8 ((36 : UInt8).toNat : Int)] w (Mo w B b (.bool true) ((76, at_) :: st) f at_) := by
  obtain ⟨x0, x1, x2, x3, x4⟩ := h.cells
  have HM := Lib.hid h
  clear h
  go_enter Try.func110, Try.ntmps110
  go_wp2_with (first
    | (go_at_call 97
       with_reducible refine (open_k B b _ _ _ 76 12 _ rfl HM.out hne hl).mono ?_
       rintro e w1 ⟨rfl, hm1, hb1⟩
       obtain ⟨x0, x1, x2, x3, x4⟩ := hm1.cells
       have q1 : BM B w w1 := hb1
       have HM1 := Lib.hid hm1
       clear hm1))
  go_ret
  exact mo_mk HM1.out q1 rfl rfl

set_option maxHeartbeats 1000000 in
theorem inner_96 (B b : Nat) (st : Stk) (f : Bool) (at_ : Int) (w : World) (h : Mach w B b st f at_) (hne : st ≠ []) (hl : st.length ≤ 100000) :
    Calls Try.prog 110 #[.pointer (some ⟨b, 0, none⟩), .int .u8 ((96 : UInt8).toNat : Int)] w (Mo w B b (.bool true) ((66, at_) :: st) f at_) := by
  obtain ⟨x0, x1, x2, x3, x4⟩ := h.cells
  have HM := Lib.hid h
  clear h
  go_enter Try.func110, Try.ntmps110
  go_wp2_with (first
    | (go_at_call 97
       with_reducible refine (open_k B b _ _ _ 66 6 _ rfl HM.out hne hl).mono ?_
       rintro e w1 ⟨rfl, hm1, hb1⟩
       obtain ⟨x0, x1, x2, x3, x4⟩ := hm1.cells
       have q1 : BM B w w1 := hb1
       have HM1 := Lib.hid hm1
       clear hm1))
  go_ret
  exact mo_mk HM1.out q1 rfl rfl

set_option maxHeartbeats 1000000 in
theorem inner_no (B b : Nat) (st : Stk) (c : UInt8) (f : Bool) (at_ : Int) (w : World) (h : Mach w B b st f at_) (h92 : ((c.toNat : Int) == 92) = false) (h36 : ((c.toNat : Int) == 36) = false) (h96 : ((c.toNat : Int) == 96) = false) :
    Calls Try.prog 110 #[.pointer (some ⟨b, 0, none⟩), .int .u8 (c.toNat : Int)] w (Mo w B b (.bool false) st f at_) := by
  obtain ⟨x0, x1, x2, x3, x4⟩ := h.cells
  have HM := Lib.hid h
  clear h
  go_enter Try.func110, Try.ntmps110
  go_wp2
  go_ret
  exact mo_mk HM.out (BM.refl _ _) rfl rfl

theorem inner_yes (B b : Nat) (st : Stk) (f : Bool) (at_ : Int) (c d : UInt8) (w : World) (h : Mach w B b st f at_) (hne : st ≠ []) (hl : st.length ≤ 100000) (hd : opensL c = [d]) :
    Calls Try.prog 110 #[.pointer (some ⟨b, 0, none⟩), .int .u8 (c.toNat : Int)] w (Mo w B b (.bool true) ((d, at_) :: st) f at_) := by
  have hc : (c = 92 ∧ d = 88) ∨ (c = 36 ∧ d = 76) ∨ (c = 96 ∧ d = 66) := by
    have := byte_all (fun c => (c == 92 && opensL c == [88]) || (c == 36 && opensL c == [76]) || (c == 96 && opensL c == [66]) || opensL c == []) (by decide +kernel) c
    simp [hd] at this
    simpa [or_assoc] using this
  rcases hc with ⟨rfl, rfl⟩ | ⟨rfl, rfl⟩ | ⟨rfl, rfl⟩
  · exact inner_92 B b st f at_ w h hne hl
  · exact inner_36 B b st f at_ w h hne hl
  · exact inner_96 B b st f at_ w h hne hl
end Go.Proofs.Ytjkiapgboljabaa
