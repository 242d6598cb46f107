/- Which parts are around a place, which are right within one: the tests. -/
import Derived.Test.YtjkiapgboljabaaPa0
import Derived.BigQuiet
import Derived.Deep.DeepCutAuto
import Derived.Deep.CutBlock
import Derived.IntWalk
namespace Go.Proofs.Ytjkiapgboljabaa
open Go.RowKit
set_option linter.unusedVariables false
set_option linter.unusedSimpArgs false
set_option maxRecDepth 100000
def arB (x : Int) (q : Prt) : Bool := decide (q.fr < x) && (decide (x < q.to) || (q.op && (x == q.to)))
def kiB (x : Int) (q : Prt) : Bool := q.up == x
set_option maxHeartbeats 1000000 in
theorem around1_m (q : Prt) (x : Int) (b : Nat) (w : World) (hb : b < w.heap.size) (hx : w.cell? ⟨b, 0, none⟩ = some (.int .i64 x)) :
    Calls Try.prog 52 #[.agg #[.int .i64 q.mode, .int .i64 q.fr, .int .i64 (toP q), .int .i64 q.up, .bool q.op], .pointer (some ⟨b, 0, none⟩)] w fun e w' => e = .returned (.bool (arB x q)) ∧ Below w.heap.size w w' := by
  have y0 : (w.alloc (.cells #[.int .i64 q.mode, .int .i64 q.fr, .int .i64 (toP q), .int .i64 q.up, .bool q.op] 26)).cell? ⟨b, 0, none⟩ = some (.int .i64 x) := by
    rw [← hx]; exact (Below.alloc (Below.refl _ _) (Nat.le_refl _) _).cell hb
  have hne : ¬ b = w.heap.size := by omega
  have HB := Lib.hid hb
  clear hb
  by_cases h1 : q.fr < x
  · have t1 : decide (q.fr < x) = true := decide_eq_true h1
    by_cases h2 : x < toP q
    · have t2 : decide (x < toP q) = true := decide_eq_true h2
      have e : arB x q = true := by unfold arB; rw [t1, show decide (x < q.to) = true from t2]; rfl
      rw [e]
      go_enter Try.func52, Try.ntmps52
      go_wp2_with fail
      go_ret
      exact ⟨rfl, Below.alloc (Below.refl _ _) (Nat.le_refl _) _⟩
    · have t2 : decide (x < toP q) = false := decide_eq_false h2
      cases h3 : q.op
      · have e : arB x q = false := by unfold arB; rw [t1, show decide (x < q.to) = false from t2, h3]; rfl
        rw [e]
        rw [h3] at y0
        go_enter Try.func52, Try.ntmps52
        go_wp2_with fail
        go_ret
        exact ⟨rfl, Below.alloc (Below.refl _ _) (Nat.le_refl _) _⟩
      · have e : arB x q = (x == toP q) := by unfold arB; rw [t1, show decide (x < q.to) = false from t2, h3]; simp [toP]
        rw [e]
        clear e
        rw [h3] at y0
        go_enter Try.func52, Try.ntmps52
        go_wp2_with fail
        go_ret
        exact ⟨rfl, Below.alloc (Below.refl _ _) (Nat.le_refl _) _⟩
  · have t1 : decide (q.fr < x) = false := decide_eq_false h1
    have e : arB x q = false := by unfold arB; rw [t1]; rfl
    rw [e]
    go_enter Try.func52, Try.ntmps52
    go_wp2_with fail
    go_ret
    exact ⟨rfl, Below.alloc (Below.refl _ _) (Nat.le_refl _) _⟩
set_option maxHeartbeats 1000000 in
theorem kids1_m (q : Prt) (x : Int) (b : Nat) (w : World) (hb : b < w.heap.size) (hx : w.cell? ⟨b, 0, none⟩ = some (.int .i64 x)) :
    Calls Try.prog 53 #[.agg #[.int .i64 q.mode, .int .i64 q.fr, .int .i64 (toP q), .int .i64 q.up, .bool q.op], .pointer (some ⟨b, 0, none⟩)] w fun e w' => e = .returned (.bool (kiB x q)) ∧ Below w.heap.size w w' := by
  have y0 : (w.alloc (.cells #[.int .i64 q.mode, .int .i64 q.fr, .int .i64 (toP q), .int .i64 q.up, .bool q.op] 26)).cell? ⟨b, 0, none⟩ = some (.int .i64 x) := by
    rw [← hx]; exact (Below.alloc (Below.refl _ _) (Nat.le_refl _) _).cell hb
  have hne : ¬ b = w.heap.size := by omega
  unfold kiB
  go_enter Try.func53, Try.ntmps53
  go_wp2_with fail
  go_ret
  exact ⟨rfl, Below.alloc (Below.refl _ _) (Nat.le_refl _) _⟩
end Go.Proofs.Ytjkiapgboljabaa
/- parts.pick with its two tests; Around and Kids. Printed by gen_pick.py. -/
namespace Go.Proofs.Ytjkiapgboljabaa
open Go.RowKit
set_option linter.unusedVariables false
set_option linter.unusedSimpArgs false
set_option maxRecDepth 100000
theorem rd_at {w : World} {B sz n c : Nat} {A : Option Addr} {xs : List Value} (h : Rd w B sz (.slice A n c) n xs) (hn : 0 < n) : ∃ g o, A = some ⟨g, o, none⟩ ∧ g < B ∧ ∀ j u, xs[j]? = some u → w.cell? ⟨g, o + j, none⟩ = some u := by
  obtain ⟨_, A', c', he, _, _, _, h2⟩ := h
  cases he
  exact h2 hn
/-- The numbers of the parts that pass a test. -/
def pkF (P : Prt → Bool) (L : List Prt) (k : Nat) : List Nat := (List.range k).filter fun i => P (L.getD i dP)
def pkL (P : Prt → Bool) (L : List Prt) : List Nat := pkF P L L.length
theorem pkF_succ (P : Prt → Bool) (L : List Prt) (k : Nat) (q : Prt) (h : L[k]? = some q) : pkF P L (k + 1) = if P q = true then pkF P L k ++ [k] else pkF P L k := by
  have hg : L.getD k dP = q := by rw [List.getD_eq_getElem?_getD, h]; rfl
  unfold pkF
  rw [List.range_succ, List.filter_append]
  by_cases hp : P q = true
  · rw [if_pos hp, List.filter_cons_of_pos (by rw [hg]; exact hp)]; rfl
  · rw [if_neg hp, List.filter_cons_of_neg (by rw [hg]; exact hp)]; simp
theorem pkF_len (P : Prt → Bool) (L : List Prt) (k : Nat) : (pkF P L k).length ≤ k := by
  have := List.length_filter_le (fun i => P (L.getD i dP)) (List.range k)
  simpa [pkF] using this
theorem pk_push {w : World} {B k : Nat} {v : Value} {h : List Nat} (ho : w.ownsRow B 3 1 v (h.length + 1) (ncells h ++ [.int .i64 (k : Int)])) : w.ownsRow B 3 1 v (h ++ [k]).length (ncells (h ++ [k])) := by
  rw [List.length_append]
  have e : ncells (h ++ [k]) = ncells h ++ [.int .i64 (k : Int)] := by simp [ncells]
  rw [e]
  exact ho

set_option maxHeartbeats 1000000 in
theorem pick_around (L : List Prt) (x : Int) (b c n : Nat) (A : Option Addr) (w : World) (hL : L.length ≤ 100000) (hn : n = L.length) (hr : Rd w w.heap.size 5 (.slice A n c) n (pcells L)) (hb : b < w.heap.size) (hx : w.cell? ⟨b, 0, none⟩ = some (.int .i64 x)) :
    Calls Try.prog 51 #[.slice A n c, .func (.func 52) #[] #[.pointer (some ⟨b, 0, none⟩)]] w fun e w' => ∃ v, e = .returned v ∧ w'.ownsRow w.heap.size 3 1 v (pkL (arB x) L).length (ncells (pkL (arB x) L)) ∧ Below w.heap.size w w' := by
  obtain ⟨i0, hi0, hz0, hz1, hz2⟩ := info_parts Try.infoI
  subst hn
  have HR := Lib.hid (And.intro hr (And.intro hx hb))
  clear hr hx hb
  go_enter Try.func51, Try.ntmps51
  go_wp2_with fail
  go_loopw [9, 4] (fun i o wr => ∃ (k : Nat) (v : Value), k ≤ L.length ∧ i = .int .i64 k ∧ o = v ∧ wr.ownsRow w.heap.size 3 1 v (pkF (arB x) L k).length (ncells (pkF (arB x) L k)) ∧ Below w.heap.size w wr) (fun i _ _ => L.length - (intOf i).toNat)
  case atStart => exact ⟨0, _, by omega, rfl, rfl, World.ownsRow_nil _ _ _ _, Below.refl _ _⟩
  case round =>
    obtain ⟨k, v, hk, rfl, rfl, ho, hbw⟩ := hrel
    obtain ⟨A3, n3, c3, rfl⟩ := own_form' ho
    obtain rfl := own_len ho
    have hpl := pkF_len (arB x) L k
    by_cases hlt : k < L.length
    · have u1 : (k : Int) < (L.length : Int) := by omega
      have u2 : (0 : Int) ≤ (k : Int) := by omega
      obtain ⟨q, hq⟩ : ∃ q, L[k]? = some q := ⟨_, List.getElem?_eq_getElem hlt⟩
      obtain ⟨g, o, hA, hg, hc⟩ := rd_at HR.out.1 (by omega)
      subst hA
      have hcell : ∀ (j : Nat) u, (pcell q)[j]? = some u → wr.cell? ⟨g, o + (k * 5 + j), none⟩ = some u := fun j u hj => (hbw.cell (p := ⟨g, o + (k * 5 + j), none⟩) hg).trans (hc _ _ (pcells_get L k q hq j u hj))
      have y0 : wr.cell? ⟨g, o + k * 5, none⟩ = some (.int .i64 q.mode) := hcell 0 _ rfl
      have y1 : wr.cell? ⟨g, o + k * 5 + 1, none⟩ = some (.int .i64 q.fr) := by rw [Nat.add_assoc]; exact hcell 1 _ rfl
      have y2 : wr.cell? ⟨g, o + k * 5 + 2, none⟩ = some (.int .i64 (toP q)) := by rw [Nat.add_assoc]; exact hcell 2 _ rfl
      have y3 : wr.cell? ⟨g, o + k * 5 + 3, none⟩ = some (.int .i64 q.up) := by rw [Nat.add_assoc]; exact hcell 3 _ rfl
      have y4 : wr.cell? ⟨g, o + k * 5 + 4, none⟩ = some (.bool q.op) := by rw [Nat.add_assoc]; exact hcell 4 _ rfl
      have hsz := hbw.size
      have hs := pkF_succ (arB x) L k q hq
      have H := Lib.hid (And.intro ho (And.intro hbw hs))
      clear ho hbw hcell hc hq hs
      go_upto_region 3 with fail
      go_cut [5, 6] (fun s5 s6 wx => s5 = .int .i64 (k : Int) ∧ ∃ F0, s6 = .pointer (some ⟨F0, 0, none⟩) ∧ Bk wx F0 26 #[.int .i64 q.mode, .int .i64 q.fr, .int .i64 (toP q), .int .i64 q.up, .bool q.op] ∧ Below wr.heap.size wr wx)
      case first =>
        go_wp2_with fail
        go_meet
        exact ⟨rfl, _, rfl, Bk.new _ _ _, (Below.refl _ _).alloc (Nat.le_refl _) _⟩
      case rest =>
        obtain ⟨rfl, F0, rfl, hF0, hb3⟩ := hcut
        have z0 : wc.cell? ⟨F0, 0, none⟩ = some (.int .i64 q.mode) := by rw [hF0.cell]; rfl
        have z1 : wc.cell? ⟨F0, 1, none⟩ = some (.int .i64 q.fr) := by rw [hF0.cell]; rfl
        have z2 : wc.cell? ⟨F0, 2, none⟩ = some (.int .i64 (toP q)) := by rw [hF0.cell]; rfl
        have z3 : wc.cell? ⟨F0, 3, none⟩ = some (.int .i64 q.up) := by rw [hF0.cell]; rfl
        have z4 : wc.cell? ⟨F0, 4, none⟩ = some (.bool q.op) := by rw [hF0.cell]; rfl
        clear y0 y1 y2 y3 y4
        have HB3 := Lib.hid (And.intro hb3 hF0)
        clear hb3 hF0
        obtain ⟨t, ht⟩ : ∃ t, t = arB x q := ⟨_, rfl⟩
        have HT := Lib.hid ht
        clear ht
        cases t
        · go_wp2_with (
            (go_at_call 52
             refine (around1_m q x b _ (by have := HR.out.2.2; have := HB3.out.1.size; omega) (((H.out.2.1.trans (HB3.out.1.mono hsz)).cell (p := ⟨b, 0, none⟩) HR.out.2.2).trans HR.out.2.1)).mono ?_
             rintro e w5 ⟨rfl, hb5⟩
             rw [← HT.out]
             have H5 := Lib.hid (HB3.out.1.trans (hb5.mono HB3.out.1.size))
             clear hb5))
          refine ⟨⟨k + 1, _, by omega, by go_num, rfl, ?_, H.out.2.1.trans (H5.out.mono hsz)⟩, by simp [intOf]; omega⟩
          rw [H.out.2.2, ← HT.out]
          exact own_below (by simpa using H.out.1) H5.out
        · go_wp2_with (first
            | (go_at_call 52
               refine (around1_m q x b _ (by have := HR.out.2.2; have := HB3.out.1.size; omega) (((H.out.2.1.trans (HB3.out.1.mono hsz)).cell (p := ⟨b, 0, none⟩) HR.out.2.2).trans HR.out.2.1)).mono ?_
               rintro e w5 ⟨rfl, hb5⟩
               rw [← HT.out]
               have H5 := Lib.hid (HB3.out.1.trans (hb5.mono HB3.out.1.size))
               clear hb5)
            | (at_builtin
               refine wpList_append_rd rfl (.tmp 17) (.tmp 19) 28 rfl w.heap.size 3 i0 _ 1 8 Try.underlying28 hi0 hz0 hz1 hz2 rfl (by decide) (.slice A3 (pkF (arB x) L k).length c3) (pkF (arB x) L k).length (ncells (pkF (arB x) L k)) rfl ((own_below H.out.1 H5.out).alloc _) (.slice (some ⟨w5.heap.size, 0, none⟩) 1 1) 1 (w5.heap.size + 1) [.int .i64 (k : Int)] rfl (rd_new w5 [.int .i64 (k : Int)] 3 1 1 rfl (by omega)) (by intro u hu; simp at hu; subst hu; rfl) (by unfold maxLen; omega) (by omega) (by have := H5.out.size; simp; omega) ?_
               intro v6 w6 hown6 hg6 hv6
               have hbel6 : Below w.heap.size w w6 := ((H.out.2.1.trans (H5.out.mono hsz)).alloc (by have := H5.out.size; omega) _).grown hg6 (by have := H5.out.size; simp; omega) (fun j hj => (H.out.1.lt j hj).1)
               have H6 := Lib.hid (And.intro (pk_push hown6) hbel6)
               clear hown6 hg6 hv6 hbel6))
          refine ⟨⟨k + 1, _, by omega, by go_num, rfl, ?_, H6.out.2⟩, by simp [intOf]; omega⟩
          rw [H.out.2.2, ← HT.out]
          exact H6.out.1
    · obtain rfl : k = L.length := by omega
      have H := Lib.hid (And.intro ho hbw)
      clear ho hbw
      go_wp2_with fail
      go_ret
      exact ⟨_, rfl, H.out.1, H.out.2⟩

set_option maxHeartbeats 1000000 in
theorem pick_kids (L : List Prt) (x : Int) (b c n : Nat) (A : Option Addr) (w : World) (hL : L.length ≤ 100000) (hn : n = L.length) (hr : Rd w w.heap.size 5 (.slice A n c) n (pcells L)) (hb : b < w.heap.size) (hx : w.cell? ⟨b, 0, none⟩ = some (.int .i64 x)) :
    Calls Try.prog 51 #[.slice A n c, .func (.func 53) #[] #[.pointer (some ⟨b, 0, none⟩)]] w fun e w' => ∃ v, e = .returned v ∧ w'.ownsRow w.heap.size 3 1 v (pkL (kiB x) L).length (ncells (pkL (kiB x) L)) ∧ Below w.heap.size w w' := by
  obtain ⟨i0, hi0, hz0, hz1, hz2⟩ := info_parts Try.infoI
  subst hn
  have HR := Lib.hid (And.intro hr (And.intro hx hb))
  clear hr hx hb
  go_enter Try.func51, Try.ntmps51
  go_wp2_with fail
  go_loopw [9, 4] (fun i o wr => ∃ (k : Nat) (v : Value), k ≤ L.length ∧ i = .int .i64 k ∧ o = v ∧ wr.ownsRow w.heap.size 3 1 v (pkF (kiB x) L k).length (ncells (pkF (kiB x) L k)) ∧ Below w.heap.size w wr) (fun i _ _ => L.length - (intOf i).toNat)
  case atStart => exact ⟨0, _, by omega, rfl, rfl, World.ownsRow_nil _ _ _ _, Below.refl _ _⟩
  case round =>
    obtain ⟨k, v, hk, rfl, rfl, ho, hbw⟩ := hrel
    obtain ⟨A3, n3, c3, rfl⟩ := own_form' ho
    obtain rfl := own_len ho
    have hpl := pkF_len (kiB x) L k
    by_cases hlt : k < L.length
    · have u1 : (k : Int) < (L.length : Int) := by omega
      have u2 : (0 : Int) ≤ (k : Int) := by omega
      obtain ⟨q, hq⟩ : ∃ q, L[k]? = some q := ⟨_, List.getElem?_eq_getElem hlt⟩
      obtain ⟨g, o, hA, hg, hc⟩ := rd_at HR.out.1 (by omega)
      subst hA
      have hcell : ∀ (j : Nat) u, (pcell q)[j]? = some u → wr.cell? ⟨g, o + (k * 5 + j), none⟩ = some u := fun j u hj => (hbw.cell (p := ⟨g, o + (k * 5 + j), none⟩) hg).trans (hc _ _ (pcells_get L k q hq j u hj))
      have y0 : wr.cell? ⟨g, o + k * 5, none⟩ = some (.int .i64 q.mode) := hcell 0 _ rfl
      have y1 : wr.cell? ⟨g, o + k * 5 + 1, none⟩ = some (.int .i64 q.fr) := by rw [Nat.add_assoc]; exact hcell 1 _ rfl
      have y2 : wr.cell? ⟨g, o + k * 5 + 2, none⟩ = some (.int .i64 (toP q)) := by rw [Nat.add_assoc]; exact hcell 2 _ rfl
      have y3 : wr.cell? ⟨g, o + k * 5 + 3, none⟩ = some (.int .i64 q.up) := by rw [Nat.add_assoc]; exact hcell 3 _ rfl
      have y4 : wr.cell? ⟨g, o + k * 5 + 4, none⟩ = some (.bool q.op) := by rw [Nat.add_assoc]; exact hcell 4 _ rfl
      have hsz := hbw.size
      have hs := pkF_succ (kiB x) L k q hq
      have H := Lib.hid (And.intro ho (And.intro hbw hs))
      clear ho hbw hcell hc hq hs
      go_upto_region 3 with fail
      go_cut [5, 6] (fun s5 s6 wx => s5 = .int .i64 (k : Int) ∧ ∃ F0, s6 = .pointer (some ⟨F0, 0, none⟩) ∧ Bk wx F0 26 #[.int .i64 q.mode, .int .i64 q.fr, .int .i64 (toP q), .int .i64 q.up, .bool q.op] ∧ Below wr.heap.size wr wx)
      case first =>
        go_wp2_with fail
        go_meet
        exact ⟨rfl, _, rfl, Bk.new _ _ _, (Below.refl _ _).alloc (Nat.le_refl _) _⟩
      case rest =>
        obtain ⟨rfl, F0, rfl, hF0, hb3⟩ := hcut
        have z0 : wc.cell? ⟨F0, 0, none⟩ = some (.int .i64 q.mode) := by rw [hF0.cell]; rfl
        have z1 : wc.cell? ⟨F0, 1, none⟩ = some (.int .i64 q.fr) := by rw [hF0.cell]; rfl
        have z2 : wc.cell? ⟨F0, 2, none⟩ = some (.int .i64 (toP q)) := by rw [hF0.cell]; rfl
        have z3 : wc.cell? ⟨F0, 3, none⟩ = some (.int .i64 q.up) := by rw [hF0.cell]; rfl
        have z4 : wc.cell? ⟨F0, 4, none⟩ = some (.bool q.op) := by rw [hF0.cell]; rfl
        clear y0 y1 y2 y3 y4
        have HB3 := Lib.hid (And.intro hb3 hF0)
        clear hb3 hF0
        obtain ⟨t, ht⟩ : ∃ t, t = kiB x q := ⟨_, rfl⟩
        have HT := Lib.hid ht
        clear ht
        cases t
        · go_wp2_with (
            (go_at_call 53
             refine (kids1_m q x b _ (by have := HR.out.2.2; have := HB3.out.1.size; omega) (((H.out.2.1.trans (HB3.out.1.mono hsz)).cell (p := ⟨b, 0, none⟩) HR.out.2.2).trans HR.out.2.1)).mono ?_
             rintro e w5 ⟨rfl, hb5⟩
             rw [← HT.out]
             have H5 := Lib.hid (HB3.out.1.trans (hb5.mono HB3.out.1.size))
             clear hb5))
          refine ⟨⟨k + 1, _, by omega, by go_num, rfl, ?_, H.out.2.1.trans (H5.out.mono hsz)⟩, by simp [intOf]; omega⟩
          rw [H.out.2.2, ← HT.out]
          exact own_below (by simpa using H.out.1) H5.out
        · go_wp2_with (first
            | (go_at_call 53
               refine (kids1_m q x b _ (by have := HR.out.2.2; have := HB3.out.1.size; omega) (((H.out.2.1.trans (HB3.out.1.mono hsz)).cell (p := ⟨b, 0, none⟩) HR.out.2.2).trans HR.out.2.1)).mono ?_
               rintro e w5 ⟨rfl, hb5⟩
               rw [← HT.out]
               have H5 := Lib.hid (HB3.out.1.trans (hb5.mono HB3.out.1.size))
               clear hb5)
            | (at_builtin
               refine wpList_append_rd rfl (.tmp 17) (.tmp 19) 28 rfl w.heap.size 3 i0 _ 1 8 Try.underlying28 hi0 hz0 hz1 hz2 rfl (by decide) (.slice A3 (pkF (kiB x) L k).length c3) (pkF (kiB x) L k).length (ncells (pkF (kiB x) L k)) rfl ((own_below H.out.1 H5.out).alloc _) (.slice (some ⟨w5.heap.size, 0, none⟩) 1 1) 1 (w5.heap.size + 1) [.int .i64 (k : Int)] rfl (rd_new w5 [.int .i64 (k : Int)] 3 1 1 rfl (by omega)) (by intro u hu; simp at hu; subst hu; rfl) (by unfold maxLen; omega) (by omega) (by have := H5.out.size; simp; omega) ?_
               intro v6 w6 hown6 hg6 hv6
               have hbel6 : Below w.heap.size w w6 := ((H.out.2.1.trans (H5.out.mono hsz)).alloc (by have := H5.out.size; omega) _).grown hg6 (by have := H5.out.size; simp; omega) (fun j hj => (H.out.1.lt j hj).1)
               have H6 := Lib.hid (And.intro (pk_push hown6) hbel6)
               clear hown6 hg6 hv6 hbel6))
          refine ⟨⟨k + 1, _, by omega, by go_num, rfl, ?_, H6.out.2⟩, by simp [intOf]; omega⟩
          rw [H.out.2.2, ← HT.out]
          exact H6.out.1
    · obtain rfl : k = L.length := by omega
      have H := Lib.hid (And.intro ho hbw)
      clear ho hbw
      go_wp2_with fail
      go_ret
      exact ⟨_, rfl, H.out.1, H.out.2⟩
end Go.Proofs.Ytjkiapgboljabaa
/- Around and Kids. Printed by gen_pick.py. -/
namespace Go.Proofs.Ytjkiapgboljabaa
open Go.RowKit
set_option linter.unusedVariables false
set_option linter.unusedSimpArgs false
set_option maxRecDepth 100000

set_option maxHeartbeats 1000000 in
theorem around_m (L : List Prt) (x : Int) (c n : Nat) (A : Option Addr) (w : World) (hL : L.length ≤ 100000) (hn : n = L.length) (hr : Rd w w.heap.size 5 (.slice A n c) n (pcells L)) :
    Calls Try.prog 20 #[.slice A n c, .int .i64 x] w fun e w' => ∃ v, e = .returned v ∧ w'.ownsRow w.heap.size 3 1 v (pkL (arB x) L).length (ncells (pkL (arB x) L)) ∧ Below w.heap.size w w' := by
  subst hn
  have hb := (Below.refl w.heap.size w).alloc (Nat.le_refl _) (.cells #[.int .i64 x] 3)
  have hc : (w.alloc (.cells #[.int .i64 x] 3)).cell? ⟨w.heap.size, 0, none⟩ = some (.int .i64 x) := by rw [(Bk.new w 3 #[.int .i64 x]).cell]; rfl
  have H := Lib.hid (And.intro (hr.next hb) (And.intro hc hb))
  clear hr hc hb
  have k1 : w.heap.size < (w.alloc (.cells #[.int .i64 x] 3)).heap.size := by simp
  go_enter Try.func20, Try.ntmps20
  go_wp2_with (go_at_call 51
               with_reducible refine (pick_around L x w.heap.size c L.length A _ hL rfl H.out.1 k1 H.out.2.1).mono ?_
               rintro e w2 ⟨v, rfl, ho, hb2⟩)
  go_ret
  exact ⟨v, rfl, own_base ho H.out.2.2.size, H.out.2.2.trans (hb2.mono H.out.2.2.size)⟩

set_option maxHeartbeats 1000000 in
theorem kids_m (L : List Prt) (x : Int) (c n : Nat) (A : Option Addr) (w : World) (hL : L.length ≤ 100000) (hn : n = L.length) (hr : Rd w w.heap.size 5 (.slice A n c) n (pcells L)) :
    Calls Try.prog 21 #[.slice A n c, .int .i64 x] w fun e w' => ∃ v, e = .returned v ∧ w'.ownsRow w.heap.size 3 1 v (pkL (kiB x) L).length (ncells (pkL (kiB x) L)) ∧ Below w.heap.size w w' := by
  subst hn
  have hb := (Below.refl w.heap.size w).alloc (Nat.le_refl _) (.cells #[.int .i64 x] 3)
  have hc : (w.alloc (.cells #[.int .i64 x] 3)).cell? ⟨w.heap.size, 0, none⟩ = some (.int .i64 x) := by rw [(Bk.new w 3 #[.int .i64 x]).cell]; rfl
  have H := Lib.hid (And.intro (hr.next hb) (And.intro hc hb))
  clear hr hc hb
  have k1 : w.heap.size < (w.alloc (.cells #[.int .i64 x] 3)).heap.size := by simp
  go_enter Try.func21, Try.ntmps21
  go_wp2_with (go_at_call 51
               with_reducible refine (pick_kids L x w.heap.size c L.length A _ hL rfl H.out.1 k1 H.out.2.1).mono ?_
               rintro e w2 ⟨v, rfl, ho, hb2⟩)
  go_ret
  exact ⟨v, rfl, own_base ho H.out.2.2.size, H.out.2.2.trans (hb2.mono H.out.2.2.size)⟩
end Go.Proofs.Ytjkiapgboljabaa
