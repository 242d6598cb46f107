/- Around and Kids. Printed by gen_pick.py. -/
import Derived.Test.YtjkiapgboljabaaPk
namespace Go.Proofs.Ytjkiapgboljabaa
open Go.RowKit
set_option linter.unusedVariables false
set_option linter.unusedSimpArgs false
set_option maxRecDepth 100000

set_option maxHeartbeats 1000000 in
theorem around_m (L : List Prt) (x : Int) (c n : Nat) (A : Option Addr) (w : World) (hL : L.length ≤ 100000) (hn : n = L.length) (hr : Rd w w.heap.size 5 (.slice A n c) n (pcells L)) :
    Calls Try.prog 20 #[.slice A n c, .int .i64 x] w fun e w' => ∃ v, e = .returned v ∧ w'.ownsRow w.heap.size 3 1 v (pkL (arB x) L).length (ncells (pkL (arB x) L)) ∧ Below w.heap.size w w' := by
  subst hn
  have hb := (Below.refl w.heap.size w).alloc (Nat.le_refl _) (.cells #[.int .i64 x] 3)
  have hc : (w.alloc (.cells #[.int .i64 x] 3)).cell? ⟨w.heap.size, 0, none⟩ = some (.int .i64 x) := by rw [(Bk.new w 3 #[.int .i64 x]).cell]; rfl
  have H := Lib.hid (And.intro (hr.next hb) (And.intro hc hb))
  clear hr hc hb
  have k1 : w.heap.size < (w.alloc (.cells #[.int .i64 x] 3)).heap.size := by simp
  go_enter Try.func20, Try.ntmps20
  go_wp2_with (go_at_call 51
               with_reducible refine (pick_around L x w.heap.size c L.length A _ hL rfl H.out.1 k1 H.out.2.1).mono ?_
               rintro e w2 ⟨v, rfl, ho, hb2⟩)
  go_ret
  exact ⟨v, rfl, own_base ho H.out.2.2.size, H.out.2.2.trans (hb2.mono H.out.2.2.size)⟩

set_option maxHeartbeats 1000000 in
theorem kids_m (L : List Prt) (x : Int) (c n : Nat) (A : Option Addr) (w : World) (hL : L.length ≤ 100000) (hn : n = L.length) (hr : Rd w w.heap.size 5 (.slice A n c) n (pcells L)) :
    Calls Try.prog 21 #[.slice A n c, .int .i64 x] w fun e w' => ∃ v, e = .returned v ∧ w'.ownsRow w.heap.size 3 1 v (pkL (kiB x) L).length (ncells (pkL (kiB x) L)) ∧ Below w.heap.size w w' := by
  subst hn
  have hb := (Below.refl w.heap.size w).alloc (Nat.le_refl _) (.cells #[.int .i64 x] 3)
  have hc : (w.alloc (.cells #[.int .i64 x] 3)).cell? ⟨w.heap.size, 0, none⟩ = some (.int .i64 x) := by rw [(Bk.new w 3 #[.int .i64 x]).cell]; rfl
  have H := Lib.hid (And.intro (hr.next hb) (And.intro hc hb))
  clear hr hc hb
  have k1 : w.heap.size < (w.alloc (.cells #[.int .i64 x] 3)).heap.size := by simp
  go_enter Try.func21, Try.ntmps21
  go_wp2_with (go_at_call 51
               with_reducible refine (pick_kids L x w.heap.size c L.length A _ hL rfl H.out.1 k1 H.out.2.1).mono ?_
               rintro e w2 ⟨v, rfl, ho, hb2⟩)
  go_ret
  exact ⟨v, rfl, own_base ho H.out.2.2.size, H.out.2.2.trans (hb2.mono H.out.2.2.size)⟩
end Go.Proofs.Ytjkiapgboljabaa
