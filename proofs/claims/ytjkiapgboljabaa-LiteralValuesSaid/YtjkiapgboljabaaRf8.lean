/- quillwortref08.find: the part that begins at a place. -/
import Derived.Test.YtjkiapgboljabaaRd8
import Derived.Test.YtjkiapgboljabaaExp
namespace Go.Proofs.Ytjkiapgboljabaa
open Go.RowKit
set_option linter.unusedVariables false
set_option linter.unusedSimpArgs false
set_option maxRecDepth 100000
/-- A struct of five cells is stored; the world behind it under a name of its own. -/
theorem fin5 {P : Program} {fn : Func} {R : Ending → World → Prop} {e : Exit} {a : Act} {w : World} {c : Nat} {t : TypeId} {u0 u1 u2 u3 u4 v0 v1 v2 v3 v4 : Value} (hb : Bk w c t #[u0, u1, u2, u3, u4])
    (h : ∀ F, Bk F c t #[v0, v1, v2, v3, v4] → w.grownBy F (some c) → bodyPost P fn R e a F) :
    bodyPost P fn R e a (((((w.setCell ⟨c, 0, none⟩ v0).setCell ⟨c, 1, none⟩ v1).setCell ⟨c, 2, none⟩ v2).setCell ⟨c, 3, none⟩ v3).setCell ⟨c, 4, none⟩ v4) := by
  have hF : Bk (((((w.setCell ⟨c, 0, none⟩ v0).setCell ⟨c, 1, none⟩ v1).setCell ⟨c, 2, none⟩ v2).setCell ⟨c, 3, none⟩ v3).setCell ⟨c, 4, none⟩ v4) c t #[v0, v1, v2, v3, v4] := by simpa using ((((hb.set 0 v0).set 1 v1).set 2 v2).set 3 v3).set 4 v4
  exact h _ hF (grown_set (grown_set (grown_set (grown_set (grown_set (grown_refl _ _) _ _) _ _) _ _) _ _) _ _)
def findV (o : Option Prt) : Value := match o with
  | none => .tuple #[.agg #[.int .i64 0, .int .i64 0, .int .i64 0, .int .i64 0, .bool false], .int .i64 0]
  | some q => .tuple #[.agg #[.int .i64 q.mode, .int .i64 q.fr, .int .i64 (toP q), .int .i64 q.up, .bool q.op], .int .i64 1]
set_option maxHeartbeats 2000000 in
theorem find_r (L : List Prt) (x c n : Nat) (A : Option Addr) (w : World) (hL : L.length ≤ 100000) (hn : n = L.length) (hr : Rd w w.heap.size 5 (.slice A n c) n (pcells L)) :
    Calls Try.prog 67 #[.slice A n c, .int .i64 (x : Int)] w fun e w' => e = .returned (findV (findP L x)) ∧ Below w.heap.size w w' := by
  subst hn
  have H := Lib.hid hr
  clear hr
  go_enter Try.func67, Try.ntmps67
  go_wp2_with fail
  go_loopw [6] (fun i wx => ∃ k : Nat, k ≤ L.length ∧ i = .int .i64 k ∧ (L.take k).find? (fun q => q.fr == (x : Int)) = none ∧ wx = w.alloc (.cells #[.int .i64 0, .int .i64 0, .int .i64 0, .int .i64 0, .bool false] 26)) (fun i _ => L.length - (intOf i).toNat)
  case atStart => exact ⟨0, by omega, rfl, rfl, rfl⟩
  case round =>
    obtain ⟨k, hk, rfl, hno, rfl⟩ := hrel
    have hw1 : Below w.heap.size w (w.alloc (.cells #[.int .i64 0, .int .i64 0, .int .i64 0, .int .i64 0, .bool false] 26)) := Below.alloc (Below.refl _ _) (Nat.le_refl _) _
    by_cases hlt : k < L.length
    · have u1 : (k : Int) < (L.length : Int) := by omega
      have u2 : (0 : Int) ≤ (k : Int) := by omega
      obtain ⟨q, hq⟩ : ∃ q, L[k]? = some q := ⟨_, List.getElem?_eq_getElem hlt⟩
      obtain ⟨g, o, rfl, hg, y0, y1, y2, y3, y4⟩ := rd_part (H.out.keep hw1 (Nat.le_refl _)) hq
      have hgw : ¬ g = w.heap.size := by omega
      have htk : (L.take (k + 1)).find? (fun q => q.fr == (x : Int)) = if (q.fr == (x : Int)) = true then some q else none := by
        obtain ⟨h1, h2⟩ := List.getElem?_eq_some_iff.1 hq
        rw [List.take_succ_eq_append_getElem h1, h2, List.find?_append, hno]
        by_cases hx : (q.fr == (x : Int)) = true
        · rw [if_pos hx]; simp [List.find?_cons, hx]
        · rw [if_neg hx]; simp [List.find?_cons, hx]
      have HQ := Lib.hid (And.intro htk hw1)
      clear htk hw1 hno hq
      cases hx : (q.fr == (x : Int))
      · have HX := Lib.hid hx
        go_wp2_with fail
        exact ⟨⟨k + 1, by omega, by go_num, by rw [HQ.out.1, if_neg (by rw [HX.out]; simp)], by first | rfl | trivial⟩, by simp [intOf]; omega⟩
      · have HX := Lib.hid hx
        have e : findP L x = some q := by
          unfold findP
          have h1 := HQ.out.1
          rw [if_pos HX.out] at h1
          rw [← List.take_append_drop (k + 1) L, List.find?_append, h1]
          rfl
        have HE := Lib.hid e
        clear e
        go_wp2_with fail
        exact bodyPost_ret (v := findV (some q)) (by simp [results, Try.results67, go_sem, findV]) rfl ⟨by rw [HE.out], Below.alloc (Below.refl _ _) (Nat.le_refl _) _⟩
    · obtain rfl : k = L.length := by omega
      rw [List.take_of_length_le (Nat.le_refl _)] at hno
      have HQ := Lib.hid (And.intro hno hw1)
      clear hno hw1
      go_wp2_with fail
      exact bodyPost_ret (v := findV none) (by simp [results, Try.results67, go_sem, findV]) rfl ⟨by unfold findP; rw [HQ.out.1], HQ.out.2⟩
end Go.Proofs.Ytjkiapgboljabaa
