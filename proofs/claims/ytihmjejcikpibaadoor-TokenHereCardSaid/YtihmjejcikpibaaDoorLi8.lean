/- literal's small functions: at (by places), lone, escaped, quoted. -/
import Derived.Test.YtihmjejcikpibaaDoorRd8
import Derived.BigQuiet
import Derived.Deep.DeepCutAuto
import Derived.Deep.CutBlock
namespace Go.Proofs.YtihmjejcikpibaaDoor
open Go.RowKit
set_option linter.unusedVariables false
set_option linter.unusedSimpArgs false
set_option maxRecDepth 100000
/-- What 'at' answers, by places. -/
def atN (o : Option Prt) (x : Nat) : Value := match o with
  | none => .tuple #[.agg #[.int .i64 0, .int .i64 0, .int .i64 0, .int .i64 0, .bool false], .bool false]
  | some q => .tuple #[.agg #[.int .i64 q.mode, .int .i64 (x : Int), .int .i64 (toN q : Int), .int .i64 q.up, .bool q.op], .bool true]
theorem at_n (w : World) (n₀ b c m x : Nat) (X : Nat → Prop) (l : List UInt8) (A : Option Addr) (hl : l.length ≤ 900) (hx : x ≤ 1000) (h : Rdr w n₀ X b l A c m) (hn : n₀ ≤ w.heap.size) :
    Calls Tryd.prog 75 #[.pointer (some ⟨b, 0, none⟩), .int .i64 (x : Int)] w fun e w' => e = .returned (atN (findP (partsL l) x) x) ∧ Below w.heap.size w w' := by
  have e : atN (findP (partsL l) x) x = atV (findP (partsL l) x) := by
    cases hf : findP (partsL l) x with
    | none => rfl
    | some q =>
      obtain ⟨_, h1, h2, _⟩ := findP_some (pl_parts l) hf
      unfold atN atV toP
      simp only [h1]
      rw [← h2]
  rw [e]
  exact at_m w n₀ b c m x X l A hl hx h hn
set_option maxHeartbeats 1000000 in
theorem lone_n (m u : Int) (x t : Nat) (o : Bool) (w : World) (hx : x ≤ 1000) (ht : t ≤ 1000) :
    Calls Tryd.prog 76 #[.agg #[.int .i64 m, .int .i64 (x : Int), .int .i64 (t : Int), .int .i64 u, .bool o]] w fun e w' => e = .returned (.bool (decide (m = 12 ∧ t = x + 1))) ∧ Below w.heap.size w w' := by
  by_cases hm : m = 12
  · have t1 : (m == 12) = true := by simpa using hm
    by_cases hx1 : t = x + 1
    · have t2 : ((t : Int) == (x : Int) + 1) = true := by rw [beq_iff_eq]; omega
      rw [decide_eq_true (show m = 12 ∧ t = x + 1 from ⟨hm, hx1⟩)]
      clear hm hx1
      go_enter Tryd.func76, Tryd.ntmps76
      go_wp2_with fail
      go_ret
      exact ⟨rfl, Below.alloc (Below.refl _ _) (Nat.le_refl _) _⟩
    · have t2 : ((t : Int) == (x : Int) + 1) = false := by rw [beq_eq_false_iff_ne]; omega
      rw [decide_eq_false (show ¬ (m = 12 ∧ t = x + 1) from fun h => hx1 h.2)]
      clear hm hx1
      go_enter Tryd.func76, Tryd.ntmps76
      go_wp2_with fail
      go_ret
      exact ⟨rfl, Below.alloc (Below.refl _ _) (Nat.le_refl _) _⟩
  · have t1 : (m == 12) = false := by simpa using hm
    rw [decide_eq_false (show ¬ (m = 12 ∧ t = x + 1) from fun h => hm h.1)]
    clear hm
    go_enter Tryd.func76, Tryd.ntmps76
    go_wp2_with fail
    go_ret
    exact ⟨rfl, Below.alloc (Below.refl _ _) (Nat.le_refl _) _⟩
theorem ret_sub {l : List UInt8} {a b : Nat} {r : List UInt8} (h : sub l a b = r) : Ending.returned (.string ((ByteArray.mk l.toArray).extract a b)) = .returned (.string ⟨r.toArray⟩) := by rw [ba_extract]; unfold sub at h; rw [h]
theorem byteC (c : UInt8) (n : Nat) (h : n < 256) : ((c.toNat : Int) == (n : Int)) = (c.toNat == n) := by
  rw [Bool.eq_iff_iff, beq_iff_eq, beq_iff_eq]; omega
theorem conv_one (W : World) (g : Nat) (d : UInt8) (hg : W.heap.size = g) :
    (Go.convert 78 9 (.slice (some ⟨g, 0, none⟩) 1 1)).run Tryd.prog (W.alloc (.cells #[.int .u8 (d.toNat : Int)] 5)) = .ok (.string ⟨[d].toArray⟩) (W.alloc (.cells #[.int .u8 (d.toNat : Int)] 5)) := by
  subst hg
  refine run_convert_bytes_back (P := Tryd.prog) _ 78 9 5 ⟨W.heap.size, 0, none⟩ 1 [d] Tryd.underlying78 Tryd.underlying5 Tryd.underlying9 ?_
  intro j hj
  obtain rfl : j = 0 := by simpa using hj
  rw [Addr.add_lit, Nat.zero_add, Bk.cell (Bk.new W _ _)]
  rfl
set_option maxHeartbeats 4000000 in
theorem escaped_n (m u : Int) (x t : Nat) (o : Bool) (w : World) (n₀ b c mm : Nat) (X : Nat → Prop) (l : List UInt8) (A : Option Addr) (hl : l.length ≤ 900) (h : Rdr w n₀ X b l A c mm) (hn : n₀ ≤ w.heap.size) (hx : x < t) (ht : t ≤ l.length) (ht2 : t ≤ x + 2) (q : Prt) (hq : toN q = t) :
    Calls Tryd.prog 93 #[.pointer (some ⟨b, 0, none⟩), .agg #[.int .i64 m, .int .i64 (x : Int), .int .i64 (t : Int), .int .i64 u, .bool o]] w fun e w' => e = .returned (.string ⟨(escT l q x).toArray⟩) ∧ Below w.heap.size w w' := by
  obtain ⟨R, hR⟩ : ∃ R, R = escT l q x := ⟨_, rfl⟩
  rw [← hR]
  unfold escT at hR
  rw [hq] at hR
  have hw1 : Below w.heap.size w (w.alloc (.cells #[.int .i64 m, .int .i64 (x : Int), .int .i64 (t : Int), .int .i64 u, .bool o] 120)) := Below.alloc (Below.refl _ _) (Nat.le_refl _) _
  have h1 := h.below hw1 hn
  have y0 : (w.alloc (.cells #[.int .i64 m, .int .i64 (x : Int), .int .i64 (t : Int), .int .i64 u, .bool o] 120)).cell? ⟨b, 0, none⟩ = some (.string ⟨l.toArray⟩) := by rw [h1.hd.cell]; rfl
  by_cases h22 : t < x + 2
  · rw [if_pos h22] at hR
    subst hR
    have t1 : (t : Int) - (x : Int) < 2 := by omega
    go_enter Tryd.func93, Tryd.ntmps93
    go_wp2_with fail
    go_ret
    exact ⟨rfl, hw1⟩
  · rw [if_neg h22] at hR
    have htx : t = x + 2 := by omega
    have HT := Lib.hid htx
    have t0 : ¬ ((t : Int) - (x : Int) < 2) := by omega
    have t00 : (x : Int) ≤ (t : Int) := by omega
    have t01 : (t : Int) ≤ (l.length : Int) := by omega
    obtain ⟨d, hd⟩ : ∃ d, l[x + 1]? = some d := ⟨_, List.getElem?_eq_getElem (by omega)⟩
    have hgd : l.getD (x + 1) 0 = d := by rw [List.getD_eq_getElem?_getD, hd]; rfl
    rw [hgd] at hR
    obtain ⟨hb1, hb2⟩ := List.getElem?_eq_some_iff.1 hd
    have hL : ∃ h : x + 1 < (ByteArray.mk l.toArray).size, (ByteArray.mk l.toArray)[x + 1]'h = d := ⟨hb1, hb2⟩
    obtain ⟨hL1, hL2⟩ := hL
    have k1 : (x : Int) + 1 < (l.length : Int) := by omega
    have k2 : (0 : Int) ≤ (x : Int) + 1 := by omega
    have k3 : ((x : Int) + 1).toNat = x + 1 := by omega
    have k4 : IntKind.i64.wrap ((x : Int) + 1) = (x : Int) + 1 := IntWalk.i64_in _ (by omega)
    have hR' := Lib.hid hR
    clear hR hd hgd hb2 htx
    by_cases hs : escB d = true
    · have hc : d.toNat = 36 ∨ d.toNat = 96 ∨ d.toNat = 34 ∨ d.toNat = 92 := by unfold escB at hs; simp at hs; omega
      have hR2 : R = [d] := by have := hR'.out; rwa [if_pos hs] at this
      clear hs hR'
      subst hR2
      rcases hc with hc | hc | hc | hc
      · have t36 : ((d.toNat : Int) == 36) = true := by rw [beq_iff_eq]; omega
        clear hc
        go_enter Tryd.func93, Tryd.ntmps93
        go_wp2_with fail
        go_quiet (fail)
        go_wp2_with fail
        rw [conv_one _ _ d (by simp)]
        go_wp2_with fail
        go_ret
        exact ⟨rfl, (below_drewN' hw1 _).alloc (by simp) _⟩
      · have t36 : ((d.toNat : Int) == 36) = false := by rw [beq_eq_false_iff_ne]; omega
        have t96 : ((d.toNat : Int) == 96) = true := by rw [beq_iff_eq]; omega
        clear hc
        go_enter Tryd.func93, Tryd.ntmps93
        go_wp2_with fail
        go_quiet (fail)
        go_wp2_with fail
        rw [conv_one _ _ d (by simp)]
        go_wp2_with fail
        go_ret
        exact ⟨rfl, (below_drewN' hw1 _).alloc (by simp) _⟩
      · have t36 : ((d.toNat : Int) == 36) = false := by rw [beq_eq_false_iff_ne]; omega
        have t96 : ((d.toNat : Int) == 96) = false := by rw [beq_eq_false_iff_ne]; omega
        have t34 : ((d.toNat : Int) == 34) = true := by rw [beq_iff_eq]; omega
        clear hc
        go_enter Tryd.func93, Tryd.ntmps93
        go_wp2_with fail
        go_quiet (fail)
        go_wp2_with fail
        rw [conv_one _ _ d (by simp)]
        go_wp2_with fail
        go_ret
        exact ⟨rfl, (below_drewN' hw1 _).alloc (by simp) _⟩
      · have t36 : ((d.toNat : Int) == 36) = false := by rw [beq_eq_false_iff_ne]; omega
        have t96 : ((d.toNat : Int) == 96) = false := by rw [beq_eq_false_iff_ne]; omega
        have t34 : ((d.toNat : Int) == 34) = false := by rw [beq_eq_false_iff_ne]; omega
        have t92 : ((d.toNat : Int) == 92) = true := by rw [beq_iff_eq]; omega
        clear hc
        go_enter Tryd.func93, Tryd.ntmps93
        go_wp2_with fail
        go_quiet (fail)
        go_wp2_with fail
        rw [conv_one _ _ d (by simp)]
        go_wp2_with fail
        go_ret
        exact ⟨rfl, (below_drewN' hw1 _).alloc (by simp) _⟩
    · have hc : d.toNat ≠ 36 ∧ d.toNat ≠ 96 ∧ d.toNat ≠ 34 ∧ d.toNat ≠ 92 := by unfold escB at hs; simp at hs; omega
      have t36 : ((d.toNat : Int) == 36) = false := by rw [beq_eq_false_iff_ne]; omega
      have t96 : ((d.toNat : Int) == 96) = false := by rw [beq_eq_false_iff_ne]; omega
      have t34 : ((d.toNat : Int) == 34) = false := by rw [beq_eq_false_iff_ne]; omega
      have t92 : ((d.toNat : Int) == 92) = false := by rw [beq_eq_false_iff_ne]; omega
      by_cases h10 : d.toNat = 10
      · have t10 : ((d.toNat : Int) == 10) = true := by rw [beq_iff_eq]; omega
        have hR2 : R = [] := by have := hR'.out; rwa [if_neg hs, if_pos h10] at this
        clear hs hc h10 hR'
        subst hR2
        go_enter Tryd.func93, Tryd.ntmps93
        go_wp2_with fail
        go_quiet (fail)
        go_wp2_with fail
        go_ret
        exact ⟨rfl, below_drewN' hw1 _⟩
      · have t10 : ((d.toNat : Int) == 10) = false := by rw [beq_eq_false_iff_ne]; omega
        have hR2 : R = sub l x t := by have := hR'.out; rwa [if_neg hs, if_neg h10] at this
        clear hs hc h10 hR'
        have HR := Lib.hid hR2
        clear hR2
        go_enter Tryd.func93, Tryd.ntmps93
        go_wp2_with fail
        go_quiet (fail)
        go_wp2_with fail
        go_quiet (fail)
        go_wp2_with fail
        go_ret
        exact ⟨ret_sub HR.out.symm, below_drewN' (below_drewN' hw1 _) _⟩
def endN (t : Nat) (o : Bool) : Nat := if o = true then t else t - 1
theorem endQ_N (q : Prt) : endQ q = endN (toN q) q.op := rfl
theorem ins45 {m u : Int} {x t : Nat} {o : Bool} (hm : m = 4 ∨ m = 5) (hx : x < t) (ho : o = false → x + 2 ≤ t) :
    inFr ⟨m, x, t, u, o⟩ = ((x + 1 : Nat) : Int) ∧ inTo ⟨m, x, t, u, o⟩ = ((endN t o : Nat) : Int) := by
  have e1 : inFr ⟨m, x, t, u, o⟩ = (x : Int) + 1 := by
    unfold inFr
    rw [if_neg (show ¬ (m = 1 ∨ m = 7 ∨ m = 8) by omega), if_neg (show ¬ m = 9 by omega)]
  refine ⟨by rw [e1]; rfl, ?_⟩
  unfold inTo
  rw [e1]
  unfold inTo0 toP endN
  cases o with
  | true =>
    rw [if_pos (show m = 12 ∨ m = 13 ∨ true = true from .inr (.inr rfl))]
    rw [if_neg (show ¬ ((t : Int) < (x : Int) + 1) by omega)]
    rfl
  | false =>
    have := ho rfl
    rw [if_neg (show ¬ (m = 12 ∨ m = 13 ∨ false = true) by simp; omega), if_neg (show ¬ m = 9 by omega)]
    rw [if_neg (show ¬ ((t : Int) - 1 < (x : Int) + 1) by omega)]
    show (t : Int) - 1 = ((t - 1 : Nat) : Int)
    omega
theorem inside_45 {m u : Int} {x t : Nat} {o : Bool} (w : World) (hm : m = 4 ∨ m = 5) (hx : x < t) (ho : o = false → x + 2 ≤ t) (ht : t ≤ 1000) :
    Calls Tryd.prog 92 #[.agg #[.int .i64 m, .int .i64 (x : Int), .int .i64 (t : Int), .int .i64 u, .bool o]] w fun e w' => e = .returned (.tuple #[.int .i64 ((x + 1 : Nat) : Int), .int .i64 ((endN t o : Nat) : Int)]) ∧ Below w.heap.size w w' := by
  have h := inside_m ⟨m, x, t, u, o⟩ w (show (0 : Int) ≤ (x : Int) by omega) (show (x : Int) ≤ 100000 by omega) (show (0 : Int) ≤ (t : Int) by omega) (show (t : Int) ≤ 100000 by omega)
  obtain ⟨e1, e2⟩ := ins45 (u := u) hm hx ho
  rw [e1, e2] at h
  exact h
theorem endN_bd {x t : Nat} {o : Bool} (hx : x < t) (ho : o = false → x + 2 ≤ t) : x + 1 ≤ endN t o ∧ endN t o ≤ t := by
  unfold endN
  cases o with
  | true => simp; omega
  | false => have := ho rfl; simp; omega
theorem five_of {w : World} {g : Nat} {t : TypeId} {a b c d e : Value} (h : Bk w g t #[a, b, c, d, e]) : w.cell? ⟨g, 0, none⟩ = some a ∧ w.cell? ⟨g, 1, none⟩ = some b ∧ w.cell? ⟨g, 2, none⟩ = some c ∧ w.cell? ⟨g, 3, none⟩ = some d ∧ w.cell? ⟨g, 4, none⟩ = some e :=
  ⟨by rw [h.cell]; rfl, by rw [h.cell]; rfl, by rw [h.cell]; rfl, by rw [h.cell]; rfl, by rw [h.cell]; rfl⟩
/-- A piece, as a value. -/
def pcV (x : Pc) : Value := .agg #[.bool x.ex, .bool x.qu, .string ⟨x.tx.toArray⟩]
set_option maxHeartbeats 2000000 in
theorem quoted_s (u : Int) (x t : Nat) (o : Bool) (w : World) (n₀ b c mm : Nat) (X : Nat → Prop) (l : List UInt8) (A : Option Addr) (hl : l.length ≤ 900) (h : Rdr w n₀ X b l A c mm) (hn : n₀ ≤ w.heap.size) (hx : x < t) (ht : t ≤ l.length) (ho : o = false → x + 2 ≤ t) :
    Calls Tryd.prog 77 #[.pointer (some ⟨b, 0, none⟩), .agg #[.int .i64 4, .int .i64 (x : Int), .int .i64 (t : Int), .int .i64 u, .bool o]] w fun e w' =>
      e = .returned (.tuple #[.agg #[.bool false, .bool true, .string ⟨(sub l (x + 1) (endN t o)).toArray⟩], .bool true]) ∧ Below w.heap.size w w' := by
  obtain ⟨hb1, hb2⟩ := endN_bd hx ho
  obtain ⟨E, hE⟩ : ∃ E, E = endN t o := ⟨_, rfl⟩
  rw [← hE] at hb1 hb2 ⊢
  have HE := Lib.hid (And.intro hE (And.intro ho h))
  have k1 : (x : Int) + 1 ≤ (E : Int) := by omega
  have k2 : (E : Int) ≤ (l.length : Int) := by omega
  have k3 : (0 : Int) ≤ (x : Int) + 1 := by omega
  have k4 : ((x : Int) + 1).toNat = x + 1 := by omega
  clear hE ho h
  go_enter Tryd.func77, Tryd.ntmps77
  go_upto_region 1 with fail
  refine gen2 fun W hbW hk1 hk2 hs => ?_
  obtain ⟨p0, p1, p2, p3, p4⟩ := five_of hk1
  have HW := Lib.hid (And.intro hbW (And.intro hk1 (And.intro hk2 hs)))
  clear hbW hk1 hk2 hs
  go_wp2_with (
    (go_at_call 92
     refine (inside_45 _ (.inl rfl) hx HE.out.2.1 (by omega)).mono ?_
     rintro e w2 ⟨he, hb2⟩
     rw [← HE.out.1] at he
     subst he
     have hk3 := HW.out.2.2.1.below hb2 HW.out.2.2.1.lt
     have hr2 := (HE.out.2.2.below HW.out.1 hn).below hb2 (Nat.le_trans hn HW.out.1.size)
     have y0 : w2.cell? ⟨b, 0, none⟩ = some (.string ⟨l.toArray⟩) := by rw [hr2.hd.cell]; rfl
     obtain ⟨_, _, _, f0, f1, f2⟩ := hk3.three
     obtain ⟨c0, c1, c2, _⟩ := hk3.three
     have H2 := Lib.hid (And.intro hb2 hk3)
     clear hb2 hk3 hr2))
  refine fin3 H2.out.2 fun F hF hgF x0 x1 x2 => ?_
  refine bodyPost_ret (v := .tuple #[.agg #[.bool false, .bool true, .string ((ByteArray.mk l.toArray).extract (x + 1) E)], .bool true]) (by simp [results, Tryd.results77, go_sem, x0, x1, x2]) rfl ⟨?_, ?_⟩
  · rw [ba_extract]; rfl
  · exact (HW.out.1.trans (H2.out.1.mono HW.out.1.size)).grown hgF (by have := HW.out.1.size; have := H2.out.1.size; omega) (by intro j hj; injection hj with hj; omega)
/-- Is there something that an Escape stands for? -/
def neT (s : List UInt8) : Bool := decide (s ≠ [] ∧ s ≠ [10])
set_option maxHeartbeats 4000000 in
theorem quoted_e (u : Int) (x t : Nat) (o : Bool) (w : World) (n₀ b c mm : Nat) (X : Nat → Prop) (l : List UInt8) (A : Option Addr) (hl : l.length ≤ 900) (h : Rdr w n₀ X b l A c mm) (hn : n₀ ≤ w.heap.size) (hx : x < t) (ht : t ≤ l.length) (ht2 : t ≤ x + 2) :
    Calls Tryd.prog 77 #[.pointer (some ⟨b, 0, none⟩), .agg #[.int .i64 13, .int .i64 (x : Int), .int .i64 (t : Int), .int .i64 u, .bool o]] w fun e w' =>
      e = .returned (.tuple #[.agg #[.bool false, .bool true, .string ⟨(sub l (x + 1) t).toArray⟩], .bool (neT (sub l (x + 1) t))]) ∧ Below w.heap.size w w' := by
  obtain ⟨S, hS⟩ : ∃ S, S = sub l (x + 1) t := ⟨_, rfl⟩
  have hx1 : (ByteArray.mk l.toArray).extract (x + 1) t = ⟨S.toArray⟩ := by rw [ba_extract, hS]; rfl
  have hSl : S.length ≤ 1 := by rw [hS, sub_len ht]; omega
  rw [← hS]
  clear hS
  have k1 : (x : Int) + 1 ≤ (t : Int) := by omega
  have k2 : (t : Int) ≤ (l.length : Int) := by omega
  have k3 : (0 : Int) ≤ (x : Int) + 1 := by omega
  have k4 : ((x : Int) + 1).toNat = x + 1 := by omega
  have k5 : IntKind.i64.wrap ((x : Int) + 1) = (x : Int) + 1 := IntWalk.i64_in _ (by omega)
  have HE := Lib.hid h
  clear h
  have hc : S = [] ∨ S = [10] ∨ ∃ d, S = [d] ∧ d ≠ 10 := by
    match S, hSl with
    | [], _ => exact .inl rfl
    | [d], _ =>
      by_cases hd : d = 10
      · exact .inr (.inl (by rw [hd]))
      · exact .inr (.inr ⟨d, rfl, hd⟩)
  clear hSl
  rcases hc with rfl | rfl | ⟨d, rfl, hd⟩
  · rw [show neT [] = false from rfl]
    go_enter Tryd.func77, Tryd.ntmps77
    go_upto_region 1 with fail
    refine gen2 fun W hbW hk1 hk2 hs => ?_
    obtain ⟨p0, p1, p2, p3, p4⟩ := five_of hk1
    have hr2 := HE.out.below hbW hn
    have y0 : W.cell? ⟨b, 0, none⟩ = some (.string ⟨l.toArray⟩) := by rw [hr2.hd.cell]; rfl
    obtain ⟨_, _, _, f0, f1, f2⟩ := hk2.three
    obtain ⟨c0, c1, c2, _⟩ := hk2.three
    have HW := Lib.hid (And.intro hbW (And.intro hk1 (And.intro hk2 hs)))
    clear hbW hk1 hk2 hs hr2
    go_wp2_with fail
    go_quiet (fail)
    go_wp2_with fail
    refine fin3 (HW.out.2.2.1.drewN _) fun F hF hgF x0 x1 x2 => ?_
    exact bodyPost_ret (v := .tuple #[.agg #[.bool false, .bool true, .string ⟨#[]⟩], .bool false]) (by simp [results, Tryd.results77, go_sem, x0, x1, x2]) rfl ⟨rfl, (below_drewN' HW.out.1 _).grown hgF (by have := HW.out.1.size; simpa using this) (by intro j hj; injection hj with hj; omega)⟩
  · rw [show neT [10] = false from rfl]
    go_enter Tryd.func77, Tryd.ntmps77
    go_upto_region 1 with fail
    refine gen2 fun W hbW hk1 hk2 hs => ?_
    obtain ⟨p0, p1, p2, p3, p4⟩ := five_of hk1
    have hr2 := HE.out.below hbW hn
    have y0 : W.cell? ⟨b, 0, none⟩ = some (.string ⟨l.toArray⟩) := by rw [hr2.hd.cell]; rfl
    obtain ⟨_, _, _, f0, f1, f2⟩ := hk2.three
    obtain ⟨c0, c1, c2, _⟩ := hk2.three
    have HW := Lib.hid (And.intro hbW (And.intro hk1 (And.intro hk2 hs)))
    clear hbW hk1 hk2 hs hr2
    go_wp2_with fail
    go_quiet (fail)
    go_wp2_with fail
    refine fin3 (HW.out.2.2.1.drewN _) fun F hF hgF x0 x1 x2 => ?_
    exact bodyPost_ret (v := .tuple #[.agg #[.bool false, .bool true, .string ⟨#[10]⟩], .bool false]) (by simp [results, Tryd.results77, go_sem, x0, x1, x2]) rfl ⟨rfl, (below_drewN' HW.out.1 _).grown hgF (by have := HW.out.1.size; simpa using this) (by intro j hj; injection hj with hj; omega)⟩
  · rw [show neT [d] = true by unfold neT; simp [hd]]
    go_enter Tryd.func77, Tryd.ntmps77
    go_upto_region 1 with fail
    refine gen2 fun W hbW hk1 hk2 hs => ?_
    obtain ⟨p0, p1, p2, p3, p4⟩ := five_of hk1
    have hr2 := HE.out.below hbW hn
    have y0 : W.cell? ⟨b, 0, none⟩ = some (.string ⟨l.toArray⟩) := by rw [hr2.hd.cell]; rfl
    obtain ⟨_, _, _, f0, f1, f2⟩ := hk2.three
    obtain ⟨c0, c1, c2, _⟩ := hk2.three
    have HW := Lib.hid (And.intro hbW (And.intro hk1 (And.intro hk2 hs)))
    clear hbW hk1 hk2 hs hr2
    go_wp2_with fail
    go_quiet (fail)
    go_wp2_with fail
    refine fin3 (HW.out.2.2.1.drewN _) fun F hF hgF x0 x1 x2 => ?_
    exact bodyPost_ret (v := .tuple #[.agg #[.bool false, .bool true, .string ⟨#[d]⟩], .bool true]) (by simp [results, Tryd.results77, go_sem, x0, x1, x2, hd]) rfl ⟨rfl, (below_drewN' HW.out.1 _).grown hgF (by have := HW.out.1.size; simpa using this) (by intro j hj; injection hj with hj; omega)⟩
end Go.Proofs.YtihmjejcikpibaaDoor
