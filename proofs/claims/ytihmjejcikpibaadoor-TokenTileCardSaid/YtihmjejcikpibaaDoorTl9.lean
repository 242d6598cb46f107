/- TokenTile: the walk. The tokens of any text tile it, and none is empty. -/
import Derived.Test.YtihmjejcikpibaaDoorAw9
import Derived.Test.YtihmjejcikpibaaDoorTp9
import Derived.Test.YtihmjejcikpibaaDoorTt9
namespace Go.Proofs.YtihmjejcikpibaaDoor
open Go.RowKit
set_option linter.unusedVariables false
set_option linter.unusedSimpArgs false
set_option maxRecDepth 100000
set_option maxHeartbeats 4000000 in
theorem tokenTile_w (l : List UInt8) (w : World) (hm : l.length ≤ 9223372036854775807) :
    Calls Tryd.prog 5 #[.string ⟨l.toArray⟩] w fun e w' => e = .returned (.bool true) ∧ Below w.heap.size w w' := by
  go_enter Tryd.func5, Tryd.ntmps5
  by_cases h150 : (150 : Int) < (l.length : Int)
  · go_wp2_with (go_at_call 8
                 refine (awake9_c _).mono ?_
                 rintro e w1 ⟨rfl, hb⟩
                 have H := Lib.hid hb
                 clear hb)
    go_ret
    exact ⟨rfl, H.out⟩
  · have hl : l.length ≤ 900 := by omega
    have htile := tile_lexL l
    have tlen := lexL_len l
    obtain ⟨ts, hts⟩ : ∃ ts, ts = (lexL l).1 := ⟨_, rfl⟩
    obtain ⟨Y, hY⟩ : ∃ Y, Y = (lexL l).2 := ⟨_, rfl⟩
    have hL : ∀ W, Calls Tryd.prog 9 #[.string ⟨l.toArray⟩] W fun e w' => ∃ v1 v2, e = .returned (.tuple #[v1, v2]) ∧ w'.ownsRow W.heap.size 30 4 v1 ts.length (tkcs ts) ∧ LxP w' Y v2 ∧ Below W.heap.size W w' := by
      intro W
      rw [hts, hY]
      exact lex_m l W hl
    rw [← hts] at htile tlen
    clear hts hY
    have HT := Lib.hid (And.intro htile hL)
    clear htile hL
    go_wp2_with (first
      | (go_at_call 8
         refine (awake9_c _).mono ?_
         rintro e w1 ⟨rfl, hb⟩
         have H := Lib.hid hb
         clear hb)
      | (go_at_call 9
         refine (HT.out.2 _).mono ?_
         rintro e w2 ⟨v1, v2, rfl, ho, ⟨v3, rfl, hr⟩, hb2⟩
         obtain ⟨A3, c3, rfl⟩ := hr.form
         unfold lxv
         obtain ⟨A, n, c, rfl⟩ := own_form' ho
         obtain rfl := own_len ho
         have H2 := Lib.hid (And.intro ho hb2)
         clear ho hb2 hr))
    go_loopw [5, 6, 7] (fun a t i wr => ∃ (k x : Nat), k ≤ ts.length ∧ a = .int .i64 x ∧ x ≤ l.length ∧ t = .string ⟨(l.take x).toArray⟩ ∧ i = .int .i64 k ∧ tileP l (ts.drop k) x ∧ wr.ownsRow w1.heap.size 30 4 (.slice A ts.length c) ts.length (tkcs ts) ∧ Below w.heap.size w wr) (fun a t i _ => ts.length - (intOf i).toNat)
    case atStart =>
      exact ⟨0, 0, Nat.zero_le _, rfl, Nat.zero_le _, by simp, rfl, by simpa using HT.out.1, H2.out.1.alloc _, (H.out.trans (H2.out.2.mono H.out.size)).alloc (by have := H.out.size; have := H2.out.2.size; omega) _⟩
    case round =>
      obtain ⟨k, x, hk, rfl, hx, rfl, rfl, ht, ho, hb⟩ := hrel
      by_cases hkn : k < ts.length
      · have u1 : (k : Int) < (ts.length : Int) := by omega
        obtain ⟨t, hget⟩ : ∃ t, ts[k]? = some t := ⟨ts[k], by simp [hkn]⟩
        have ht2 : tileP l (t :: ts.drop (k + 1)) x := by
          rw [List.drop_eq_getElem_cons hkn] at ht
          rw [List.getElem?_eq_getElem hkn] at hget
          injection hget with hget
          rwa [hget] at ht
        obtain ⟨rfl, a2, a3, a4, a5, a6⟩ := ht2
        obtain ⟨g, rfl, y0, y1, y2, y3⟩ := own_tk ho hget hkn
        clear ht
        have e1 : ¬ (t.to : Int) ≤ (t.fr : Int) := by omega
        have e2 : ¬ (t.kd : Int) < 1 := by omega
        have e3 : ¬ (7 : Int) < (t.kd : Int) := by omega
        have f1 : decide ((t.to : Int) ≤ (t.fr : Int)) = false := by simp; omega
        have f2 : decide ((t.kd : Int) < 1) = false := by simp; omega
        have f3 : decide ((7 : Int) < (t.kd : Int)) = false := by simp; omega
        have hcat : l.take t.fr ++ sub l t.fr t.to = l.take t.to := by
          unfold sub
          have h9 := List.take_append_drop t.fr (l.take t.to)
          rwa [List.take_take, Nat.min_eq_left (by omega)] at h9
        have hsl : (sub l t.fr t.to).length = t.to - t.fr := by unfold sub; rw [List.length_drop, List.length_take, Nat.min_eq_left a3]
        have hkb : k ≤ 900 := by have := tlen; omega
        have hov : ¬ 9223372036854775807 < t.fr + (sub l t.fr t.to).length := by rw [hsl]; omega
        clear hsl
        have HC := Lib.hid hcat
        clear hcat
        go_wp2_with (
          (go_at_call 12
           refine (text9_m l t wr (by omega) a3).mono ?_
           rintro e w3 ⟨rfl, hb3⟩
           have H3 := Lib.hid hb3
           clear hb3))
        have hm2 : ts.length - (k + 1) < ts.length - k := by omega
        have hs : (⟨(l.take t.fr).toArray⟩ : ByteArray) ++ ⟨(sub l t.fr t.to).toArray⟩ = ⟨(l.take t.to).toArray⟩ := by rw [← HC.out]; apply ByteArray.ext; simp
        refine ⟨⟨k + 1, t.to, by omega, rfl, a3, by rw [hs], by go_num, a6, own_below ho H3.out, hb.trans (H3.out.mono hb.size)⟩, by simp [intOf]; omega⟩
      · have u1 : ¬ (k : Int) < (ts.length : Int) := by omega
        obtain rfl : k = ts.length := by omega
        have hx2 : x = l.length := by rw [List.drop_length] at ht; exact ht
        subst hx2
        rw [List.take_length]
        have HB := Lib.hid hb
        clear ht ho hb
        go_wp2
        go_ret
        exact ⟨rfl, HB.out⟩
end Go.Proofs.YtihmjejcikpibaaDoor
