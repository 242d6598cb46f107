/- PartsRows: the walk. The rows of bytes of one part tile any text, each as long as can be. -/
import Derived.Test.YtjkiapgboljabaaRw
import Derived.Test.YtjkiapgboljabaaIn7
import Derived.BigQuiet
import Derived.Deep.DeepCutAuto
import Derived.Deep.CutBlock
import Derived.IntWalk
namespace Go.Proofs.Ytjkiapgboljabaa
open Go.RowKit
set_option linter.unusedVariables false
set_option linter.unusedSimpArgs false
set_option maxRecDepth 100000
theorem rcells_get : ∀ (l : List RV) (k : Nat) (q : RV), l[k]? = some q → ∀ (j : Nat) (u : Value), (rcell q)[j]? = some u → (rcells l)[k * 3 + j]? = some u
  | [], k, q, h, _, _, _ => by simp at h
  | x :: l, 0, q, h, j, u, hu => by
    simp at h; subst h
    have hj : j < 3 := (List.getElem?_eq_some_iff.1 hu).1
    show (rcell x ++ rcells l)[0 * 3 + j]? = _
    rw [Nat.zero_mul, Nat.zero_add, List.getElem?_append_left hj]
    exact hu
  | x :: l, k + 1, q, h, j, u, hu => by
    show (rcell x ++ rcells l)[(k + 1) * 3 + j]? = _
    have e : (rcell x).length = 3 := rfl
    rw [List.getElem?_append_right (by rw [e]; omega), e, show (k + 1) * 3 + j - 3 = k * 3 + j by omega]
    exact rcells_get l k q (by simpa using h) j u hu
theorem rcells_at {L : List RV} {w : World} {B g n c : Nat} (h : w.ownsRow B 44 3 (.slice (some ⟨g, 0, none⟩) n c) n (rcells L)) {i : Nat} {q : RV} (hi : L[i]? = some q) :
    w.cell? ⟨g, i * 3, none⟩ = some (.int .i64 q.c) ∧ w.cell? ⟨g, i * 3 + 1, none⟩ = some (.int .i64 (q.a : Int)) ∧ w.cell? ⟨g, i * 3 + 2, none⟩ = some (.int .i64 (q.b : Int)) :=
  ⟨own_cell h _ _ (rcells_get _ i q hi 0 _ rfl), own_cell h _ _ (rcells_get _ i q hi 1 _ rfl), own_cell h _ _ (rcells_get _ i q hi 2 _ rfl)⟩
theorem byte_v (L : List Prt) (x : Int) (v : Int) (c : Nat) (A : Option Addr) (w : World) (hv : byF L x L.length = v) (hL : L.length ≤ 100000) (hr : Rd w w.heap.size 5 (.slice A L.length c) L.length (pcells L)) :
    Calls Try.prog 30 #[.slice A L.length c, .int .i64 x] w fun e w' => e = .returned (.int .i64 v) ∧ w' = w := by
  subst hv
  exact (byte_r L x c L.length A w hL rfl hr).mono fun _ _ h => ⟨h.1, h.2.symm⟩
set_option maxHeartbeats 1000000 in
theorem partsRows_w (l : List UInt8) (w : World) (hm : l.length ≤ 9223372036854775807) :
    Calls Try.prog 9 #[.string ⟨l.toArray⟩] w fun e w' => e = .returned (.bool true) ∧ Below w.heap.size w w' := by
  by_cases hl : 100 < l.length
  · have k1 : decide ((100 : Int) < (l.length : Int)) = true := by simp; omega
    go_enter Try.func9, Try.ntmps9
    go_wp2_with (go_at_call 17; refine (awake7_c _).mono ?_; rintro e w1 ⟨rfl, hb1⟩)
    go_ret
    exact ⟨rfl, hb1⟩
  · have k1 : decide ((100 : Int) < (l.length : Int)) = false := by simp; omega
    have hl0 : l.length ≤ 100 := by omega
    have hl9 : l.length ≤ 900 := by omega
    go_enter Try.func9, Try.ntmps9
    go_wp2_with (first
      | (go_at_call 17
         refine (awake7_c _).mono ?_
         rintro e w1 ⟨rfl, hb1⟩)
      | (go_at_call 22
         refine (of_rp l _ (by omega)).mono ?_
         rintro e w2 ⟨v, rfl, ho, hb2⟩
         obtain ⟨A, n, c, rfl⟩ := own_form' ho
         obtain rfl := own_len ho
         have H := Lib.hid (And.intro ho (hb1.trans (hb2.mono hb1.size)))
         clear ho hb1 hb2)
      | (go_at_call 29
         refine (rows_m l _ hl9).mono ?_
         rintro e w3 ⟨v3, ys, rfl, hok, ho3, hb3⟩
         obtain ⟨A3, n3, c3, rfl⟩ := own_form' ho3
         obtain rfl := own_len ho3
         have hyl := hok.len
         have H3 := Lib.hid (And.intro ho3 (And.intro (own_below H.out.1 hb3) (And.intro (H.out.2.trans (hb3.mono H.out.2.size)) hok)))
         clear ho3 hb3 hok))
    have hpl := parts_len l
    obtain ⟨L, hL⟩ : ∃ L, L = partsL l := ⟨_, rfl⟩
    rw [← hL] at hpl H3 ⊢
    clear hL
    obtain ⟨K, hK⟩ : ∃ K : Nat → Int, K = fun x : Nat => byF L (x : Int) L.length := ⟨_, rfl⟩
    rw [← hK] at H3
    have hKv : ∀ x : Nat, byF L (x : Int) L.length = K x := fun x => by rw [hK]
    have HK := Lib.hid hKv
    clear hK hKv
    go_loopw [6, 5] (fun i s wr => ∃ k : Nat, k ≤ ys.length ∧ i = .int .i64 k ∧ s = .int .i64 (rEnd ys k : Int) ∧ Below w3.heap.size w3 wr) (fun i _ _ => ys.length - (intOf i).toNat)
    case atStart => exact ⟨0, by omega, rfl, rfl, Below.refl _ _⟩
    case round =>
      obtain ⟨k, hk, rfl, rfl, hb⟩ := hrel
      by_cases hlt : k < ys.length
      · have u1 : (k : Int) < (ys.length : Int) := by omega
        have u2 : (0 : Int) ≤ (k : Int) := by omega
        obtain ⟨q, hq⟩ : ∃ q, ys[k]? = some q := ⟨_, List.getElem?_eq_getElem hlt⟩
        have ho3 := own_below H3.out.1 hb
        obtain ⟨g3, rfl⟩ := own_at ho3 (by omega)
        obtain ⟨y0, y1, y2⟩ := rcells_at ho3 hq
        obtain ⟨ha, hab, hbn, hKc, hKn⟩ := H3.out.2.2.2.all k q hq
        obtain ⟨e, he⟩ : ∃ e, e = rEnd ys k := ⟨_, rfl⟩
        rw [ha, ← he] at y1
        rw [ha, ← he] at hab hKc
        have hprev : 0 < k → ∃ p, ys[k - 1]? = some p ∧ (p.c == q.c) = false := by
          intro h0
          obtain ⟨p, hp⟩ : ∃ p, ys[k - 1]? = some p := ⟨_, List.getElem?_eq_getElem (by omega)⟩
          refine ⟨p, hp, ?_⟩
          have h1 := (H3.out.2.2.2.all (k - 1) p hp).2.2.2.2
          have e1 : e = p.b := by
            rw [he]
            obtain ⟨k', rfl⟩ : ∃ k', k = k' + 1 := ⟨k - 1, by omega⟩
            show (ys.getD k' (⟨0, 0, 0⟩ : RV)).b = p.b
            rw [List.getD_eq_getElem?_getD, show ys[k']? = some p from hp]
            rfl
          rw [beq_eq_false_iff_ne]
          intro h2
          refine h1 (by omega) ?_
          rw [← e1, h2]
          exact hKc e (Nat.le_refl _) hab
        have hend : rEnd ys (k + 1) = q.b := by
          show (ys.getD k (⟨0, 0, 0⟩ : RV)).b = q.b
          rw [List.getD_eq_getElem?_getD, hq]
          rfl
        rw [← he]
        have t1 : decide (q.b ≤ e) = false := decide_eq_false (by omega)
        have t2 : decide (l.length < q.b) = false := decide_eq_false (by omega)
        have HQ := Lib.hid (And.intro hq (And.intro hKc (And.intro hend hb)))
        clear hq hKc hKn hend hb he ha
        go_upto_region 11 with fail
        go_cut [65] (fun s wx => Below wr.heap.size wr wx ∧ s = .bool false)
        case first =>
          by_cases h0 : 0 < k
          · have t3 : decide ((0 : Int) < (k : Int)) = true := decide_eq_true (by omega)
            obtain ⟨p, hp, hpc⟩ := hprev h0
            have v3 : (0 : Int) ≤ (k : Int) - 1 := by omega
            have v4 : ((k : Int) - 1).toNat = k - 1 := by omega
            have v5 : (k : Int) - 1 < (ys.length : Int) := by omega
            have v6 : (1 : Int) ≤ (k : Int) := by omega
            have v7 : (k : Int) < (ys.length : Int) + 1 := by omega
            have v8 : IntKind.i64.wrap ((k : Int) - 1) = (k : Int) - 1 := IntWalk.i64_in _ (by omega)
            obtain ⟨z0, _, _⟩ := rcells_at ho3 hp
            clear hp hprev ho3
            go_quiet (fail)
            go_wp2_with fail
            go_meet
            exact ⟨below_drewN' (Below.refl _ _) _, rfl⟩
          · have t3 : decide ((0 : Int) < (k : Int)) = false := decide_eq_false (by omega)
            clear hprev ho3
            go_quiet (fail)
            go_wp2_with fail
            go_meet
            exact ⟨below_drewN' (Below.refl _ _) _, rfl⟩
        case rest =>
          obtain ⟨hb4, rfl⟩ := hcut
          have HB := Lib.hid (HQ.out.2.2.2.trans (hb4.mono HQ.out.2.2.2.size))
          clear hb4 ho3 hprev y0 y1 y2
          go_wp2_with fail
          go_loopw [5] (fun s wx => ∃ t : Nat, e ≤ t ∧ t ≤ q.b ∧ s = .int .i64 t ∧ Below w3.heap.size w3 wx) (fun s _ => q.b - (intOf s).toNat)
          case atStart => exact ⟨e, Nat.le_refl _, by omega, rfl, HB.out⟩
          case round =>
            obtain ⟨t, het, htb, rfl, hb5⟩ := hrel
            have ho5 := own_below H3.out.1 hb5
            have hl5 := Rd.of_own (own_below H3.out.2.1 hb5)
            obtain ⟨y0, y1, y2⟩ := rcells_at ho5 HQ.out.1
            have H5 := Lib.hid (And.intro hb5 hl5)
            clear hb5 ho5 hl5
            by_cases htq : t < q.b
            · have x1 : (t : Int) < (q.b : Int) := by omega
              have x2 : (0 : Int) ≤ (t : Int) := by omega
              go_wp2_with fail
              go_quiet ((go_at_call 30; exact Calls.quiet_of_same (byte_v L _ q.c c A _ (by rw [HK.out]; exact HQ.out.2.1 t het htq) (by omega) H5.out.2)))
              go_wp2_with fail
              exact ⟨⟨t + 1, by omega, by omega, by go_num, below_drewN' H5.out.1 _⟩, by simp [intOf]; omega⟩
            · obtain rfl : t = q.b := by omega
              go_wp2_with fail
              exact ⟨⟨k + 1, by omega, by go_num, by rw [HQ.out.2.2.1], H5.out.1⟩, by simp [intOf]; omega⟩
      · obtain rfl : k = ys.length := by omega
        have hlast := H3.out.2.2.2.last
        rw [hlast]
        have HS := Lib.hid hb
        clear hb hlast
        go_wp2_with fail
        go_ret
        refine ⟨?_, H3.out.2.2.1.trans (HS.out.mono H3.out.2.2.1.size)⟩
        simp
end Go.Proofs.Ytjkiapgboljabaa
