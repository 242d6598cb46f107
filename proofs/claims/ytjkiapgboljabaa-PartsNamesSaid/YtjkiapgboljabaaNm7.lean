/- parts.Names, and PartsNames' walk. The names of a text's parameters are as the document says. -/
import Derived.Test.YtjkiapgboljabaaNam
import Derived.Test.YtjkiapgboljabaaIn7
import Derived.Test.YtjkiapgboljabaaSt0
namespace Go.Proofs.Ytjkiapgboljabaa
open Go.RowKit
set_option linter.unusedVariables false
set_option linter.unusedSimpArgs false
set_option maxRecDepth 100000
def nameQ (l : List UInt8) (q : Prt) : List UInt8 := nameX l q.mode q.fr.toNat (toP q).toNat
def neB (x : List UInt8) : Bool := !x.isEmpty
def nmsL (l : List UInt8) (L : List Prt) : List (List UInt8) := (L.map (nameQ l)).filter neB
def scells (X : List (List UInt8)) : List Value := X.map fun x => .string ⟨x.toArray⟩
theorem one_strs (X : List (List UInt8)) : ∀ u ∈ scells X, u.oneCell' = true := by
  intro u hu
  obtain ⟨x, _, rfl⟩ := List.mem_map.1 hu
  rfl
theorem Try.infoStr : (Try.prog.info? 9).map (fun i => (i.zero, i.size, i.bytes)) = some (some (.string ByteArray.empty), 1, 16) := by kernel_rfl
theorem nms_succ {l : List UInt8} {L : List Prt} {k : Nat} {q : Prt} (h : L[k]? = some q) : nmsL l (L.take (k + 1)) = if neB (nameQ l q) = true then nmsL l (L.take k) ++ [nameQ l q] else nmsL l (L.take k) := by
  obtain ⟨hk, hq⟩ := List.getElem?_eq_some_iff.1 h
  unfold nmsL
  rw [List.take_succ_eq_append_getElem hk, hq, List.map_append, List.filter_append]
  by_cases hp : neB (nameQ l q) = true
  · rw [if_pos hp, List.map_cons, List.filter_cons_of_pos hp]; rfl
  · rw [if_neg hp, List.map_cons, List.filter_cons_of_neg hp]; simp
theorem nms_len (l : List UInt8) (L : List Prt) (k : Nat) : (nmsL l (L.take k)).length ≤ k := by
  unfold nmsL
  refine Nat.le_trans (List.length_filter_le _ _) ?_
  rw [List.length_map, List.length_take]
  omega
set_option maxHeartbeats 2000000 in
theorem names_m (l : List UInt8) (w : World) (hl : l.length ≤ 900) :
    Calls Try.prog 27 #[.string ⟨l.toArray⟩] w fun e w' => ∃ v, e = .returned v ∧ w'.ownsRow w.heap.size 9 1 v (nmsL l (partsL l)).length (scells (nmsL l (partsL l))) ∧ Below w.heap.size w w' := by
  obtain ⟨i0, hi0, hz0, hz1, hz2⟩ := info_parts Try.infoStr
  have hpl := parts_len l
  have hbd := parts_nat l hl
  obtain ⟨L, hL⟩ : ∃ L, L = partsL l := ⟨_, rfl⟩
  rw [← hL] at hpl hbd ⊢
  have HL := Lib.hid (And.intro hL hbd)
  clear hL hbd
  go_enter Try.func27, Try.ntmps27
  go_wp2_with (
    (go_at_call 18
     refine (of_m l _ (by omega)).mono ?_
     rintro e w2 ⟨v, rfl, ho, hb2⟩
     rw [← HL.out.1] at ho
     obtain ⟨A, n, c, rfl⟩ := own_form' ho
     obtain rfl := own_len ho
     have H := Lib.hid (And.intro ho hb2)
     clear ho hb2))
  go_loopw [9, 2] (fun i s wx => ∃ (k : Nat) (v : Value), k ≤ L.length ∧ i = .int .i64 k ∧ s = v ∧ wx.ownsRow w2.heap.size 9 1 v (nmsL l (L.take k)).length (scells (nmsL l (L.take k))) ∧ Below w2.heap.size w2 wx) (fun i _ _ => L.length - (intOf i).toNat)
  case atStart => exact ⟨0, _, by omega, rfl, rfl, World.ownsRow_nil _ _ _ _, Below.refl _ _⟩
  case round =>
    obtain ⟨k, v, hk, rfl, rfl, hown, hb⟩ := hrel
    by_cases hlt : k < L.length
    · have u1 : (k : Int) < (L.length : Int) := by omega
      have u2 : (0 : Int) ≤ (k : Int) := by omega
      obtain ⟨q, hq⟩ : ∃ q, L[k]? = some q := ⟨_, List.getElem?_eq_getElem hlt⟩
      have ho := own_below H.out.1 hb
      obtain ⟨g, rfl⟩ := own_at ho (by omega)
      obtain ⟨y0, y1, y2, y3, y4⟩ := pcells_at ho hq
      obtain ⟨f, t, hf, ht, hft, htl⟩ := HL.out.2 q (List.mem_of_getElem? hq)
      rw [hf] at y1
      rw [ht] at y2
      have hs := nms_succ (l := l) hq
      have hN := nms_len l L k
      have hXq : nameX l q.mode f t = nameQ l q := by unfold nameQ; rw [hf, ht]; rfl
      obtain ⟨M, hM⟩ : ∃ M, M = nmsL l (L.take k) := ⟨_, rfl⟩
      rw [← hM] at hown hN hs
      obtain ⟨A3, n3, c3, rfl⟩ := own_form' hown
      obtain rfl := own_len hown
      obtain ⟨X, hX⟩ : ∃ X, X = nameQ l q := ⟨_, rfl⟩
      rw [← hX] at hs hXq
      have HS := Lib.hid (And.intro hs (And.intro hXq (And.intro hown hb)))
      clear hs hXq hown hb hX hM hq ho hf ht
      cases X with
      | nil =>
        go_wp2_with (
          (go_at_call 59
           refine (name_c l q.mode q.up f t q.op _ hl hft htl).mono ?_
           rintro e w5 ⟨he, hb5⟩
           rw [HS.out.2.1] at he
           subst he
           have hb6 : Below w2.heap.size w2 w5 := (HS.out.2.2.2.alloc HS.out.2.2.2.size _).trans (hb5.mono (by have := HS.out.2.2.2.size; simp; omega))
           have H5 := Lib.hid (And.intro (own_below (HS.out.2.2.1.alloc _) hb5) hb6)
           clear hb5 hb6))
        refine ⟨⟨k + 1, .slice A3 M.length c3, by omega, by go_num, rfl, ?_, H5.out.2⟩, by simp [intOf]; omega⟩
        rw [HS.out.1, if_neg (by simp [neB])]
        exact H5.out.1
      | cons a r =>
        go_wp2_with (first
          | (go_at_call 59
             refine (name_c l q.mode q.up f t q.op _ hl hft htl).mono ?_
             rintro e w5 ⟨he, hb5⟩
             rw [HS.out.2.1] at he
             subst he
             have hb6 : Below w2.heap.size w2 w5 := (HS.out.2.2.2.alloc HS.out.2.2.2.size _).trans (hb5.mono (by have := HS.out.2.2.2.size; simp; omega))
             have H5 := Lib.hid (And.intro (own_below (HS.out.2.2.1.alloc _) hb5) hb6)
             clear hb5 hb6)
          | (at_builtin
             refine wpList_append_rd rfl (.tmp 18) (.tmp 20) 38 rfl w2.heap.size 9 i0 _ 1 16 Try.underlying38 hi0 hz0 hz1 hz2 rfl (by decide) (.slice A3 M.length c3) M.length (scells M) rfl (H5.out.1.alloc _) (.slice (some ⟨w5.heap.size, 0, none⟩) 1 1) 1 (w5.heap.size + 1) (scells [a :: r]) rfl (rd_new w5 (scells [a :: r]) 9 1 1 rfl (by omega)) (one_strs _) (by unfold maxLen; omega) (by omega) (by have := H5.out.2.size; simp; omega) ?_
             intro v6 w6 hown6 hg6 hv6
             have hbel6 : Below w2.heap.size w2 w6 := (H5.out.2.alloc H5.out.2.size _).grown hg6 (by have := H5.out.2.size; simp; omega) (fun j hj => (H5.out.1.lt j hj).1)
             have H6 := Lib.hid (And.intro hown6 hbel6)
             clear hown6 hg6 hv6 hbel6))
        refine ⟨⟨k + 1, _, by omega, by go_num, rfl, ?_, H6.out.2⟩, by simp [intOf]; omega⟩
        rw [HS.out.1, if_pos (by simp [neB]), List.length_append]
        have e : scells (M ++ [a :: r]) = scells M ++ scells [a :: r] := by simp [scells]
        rw [e]
        exact H6.out.1
    · obtain rfl : k = L.length := by omega
      rw [List.take_of_length_le (Nat.le_refl _)] at hown
      have HS := Lib.hid (And.intro hown hb)
      clear hown hb
      go_wp2_with fail
      go_ret
      exact ⟨_, rfl, own_base HS.out.1 H.out.2.size, H.out.2.trans (HS.out.2.mono H.out.2.size)⟩
set_option maxHeartbeats 2000000 in
theorem partsNames_w (l : List UInt8) (w : World) (hm : l.length ≤ 9223372036854775807) :
    Calls Try.prog 8 #[.string ⟨l.toArray⟩] w fun e w' => e = .returned (.bool true) ∧ Below w.heap.size w w' := by
  by_cases hl : 100 < l.length
  · have k1 : decide ((100 : Int) < (l.length : Int)) = true := by simp; omega
    go_enter Try.func8, Try.ntmps8
    go_wp2_with (go_at_call 17; refine (awake7_c _).mono ?_; rintro e w1 ⟨rfl, hb1⟩)
    go_ret
    exact ⟨rfl, hb1⟩
  · have k1 : decide ((100 : Int) < (l.length : Int)) = false := by simp; omega
    have hl0 : l.length ≤ 100 := by omega
    have hl9 : l.length ≤ 900 := by omega
    go_enter Try.func8, Try.ntmps8
    go_wp2_with (first
      | (go_at_call 17
         refine (awake7_c _).mono ?_
         rintro e w1 ⟨rfl, hb1⟩)
      | (go_at_call 22
         refine (of_rp l _ (by omega)).mono ?_
         rintro e w2 ⟨v, rfl, ho, hb2⟩
         obtain ⟨A, n, c, rfl⟩ := own_form' ho
         obtain rfl := own_len ho
         have H := Lib.hid (And.intro ho (hb1.trans (hb2.mono hb1.size)))
         clear ho hb1 hb2)
      | (go_at_call 27
         refine (names_m l _ hl9).mono ?_
         rintro e w3 ⟨v3, rfl, ho3, hb3⟩
         obtain ⟨A3, n3, c3, rfl⟩ := own_form' ho3
         obtain rfl := own_len ho3
         have H3 := Lib.hid (And.intro ho3 (And.intro (own_below H.out.1 hb3) (H.out.2.trans (hb3.mono H.out.2.size))))
         clear ho3 hb3))
    have hpl := parts_len l
    have hbd := parts_nat l hl9
    obtain ⟨L, hL⟩ : ∃ L, L = partsL l := ⟨_, rfl⟩
    rw [← hL] at hpl hbd H3 ⊢
    have HL := Lib.hid (And.intro hL hbd)
    clear hL hbd
    have hml := nms_len l L L.length
    rw [List.take_of_length_le (Nat.le_refl _)] at hml
    obtain ⟨M, hM⟩ : ∃ M, M = nmsL l L := ⟨_, rfl⟩
    rw [← hM] at hml H3 ⊢
    have HM := Lib.hid hM
    clear hM
    go_loopw [6, 5] (fun i s wr => ∃ k : Nat, k ≤ L.length ∧ i = .int .i64 k ∧ s = .int .i64 ((nmsL l (L.take k)).length : Int) ∧ Below w3.heap.size w3 wr) (fun i _ _ => L.length - (intOf i).toNat)
    case atStart => exact ⟨0, by omega, rfl, rfl, Below.refl _ _⟩
    case round =>
      obtain ⟨k, hk, rfl, rfl, hb⟩ := hrel
      by_cases hlt : k < L.length
      · have u1 : (k : Int) < (L.length : Int) := by omega
        have u2 : (0 : Int) ≤ (k : Int) := by omega
        obtain ⟨q, hq⟩ : ∃ q, L[k]? = some q := ⟨_, List.getElem?_eq_getElem hlt⟩
        have ho := own_below H3.out.2.1 hb
        obtain ⟨g, rfl⟩ := own_at ho (by omega)
        obtain ⟨y0, y1, y2, y3, y4⟩ := pcells_at ho hq
        obtain ⟨f, t, hf, ht, hft, htl⟩ := HL.out.2 q (List.mem_of_getElem? hq)
        rw [hf] at y1
        rw [ht] at y2
        have hs := nms_succ (l := l) hq
        have hXq : nameX l q.mode f t = nameQ l q := by unfold nameQ; rw [hf, ht]; rfl
        obtain ⟨X, hX⟩ : ∃ X, X = nameQ l q := ⟨_, rfl⟩
        have hget : neB X = true → M[(nmsL l (L.take k)).length]? = some X := by
          intro hp
          have hm : (L.map (nameQ l))[k]? = some X := by rw [List.getElem?_map, hq, hX]; rfl
          have := (filt_get neB (L.map (nameQ l)) k X hm hp).1
          rw [HM.out]
          unfold nmsL
          rwa [List.map_take]
        have hN := nms_len l L k
        obtain ⟨s, hss⟩ : ∃ s, s = (nmsL l (L.take k)).length := ⟨_, rfl⟩
        rw [← hss] at hget hN ⊢
        rw [← hX] at hs hXq
        have o3 := own_below H3.out.1 hb
        have HS := Lib.hid (And.intro hs (And.intro hXq (And.intro hb hss)))
        clear hs hXq hb hX hq ho hf ht hss
        cases X with
        | nil =>
          go_wp2_with (
            (go_at_call 28
             refine (rname_c l q.mode q.up f t q.op _ hl9 hft htl).mono ?_
             rintro e w5 ⟨he, hb5⟩
             rw [HS.out.2.1] at he
             subst he
             have H5 := Lib.hid (HS.out.2.2.1.trans (hb5.mono HS.out.2.2.1.size))
             clear hb5))
          refine ⟨⟨k + 1, by omega, by go_num, ?_, H5.out⟩, by simp [intOf]; omega⟩
          rw [HS.out.1, if_neg (by simp [neB]), HS.out.2.2.2]
        | cons a r =>
          have hg := hget (by simp [neB])
          have hsM := (List.getElem?_eq_some_iff.1 hg).1
          obtain ⟨g3, rfl⟩ := own_at o3 (by omega)
          have x0 : wr.cell? ⟨g3, s, none⟩ = some (.string ⟨(a :: r).toArray⟩) := own_cell o3 _ _ (by unfold scells; rw [List.getElem?_map, hg]; rfl)
          have hgl := (own_le o3).2.2.2.2
          have v1 : (s : Int) < (M.length : Int) := by omega
          have v2 : (0 : Int) ≤ (s : Int) := by omega
          have v3 : decide ((M.length : Int) ≤ (s : Int)) = false := decide_eq_false (by omega)
          clear hg hget o3
          go_wp2_with (
            (go_at_call 28
             refine (rname_c l q.mode q.up f t q.op _ hl9 hft htl).mono ?_
             rintro e w5 ⟨he, hb5⟩
             rw [HS.out.2.1] at he
             subst he
             have x1 : w5.cell? ⟨g3, s, none⟩ = some (.string ⟨(a :: r).toArray⟩) := (hb5.cell (p := ⟨g3, s, none⟩) hgl).trans x0
             have H5 := Lib.hid (HS.out.2.2.1.trans (hb5.mono HS.out.2.2.1.size))
             clear hb5))
          refine ⟨⟨k + 1, by omega, by go_num, ?_, H5.out⟩, by simp [intOf]; omega⟩
          rw [HS.out.1, if_pos (by simp [neB]), List.length_append, ← HS.out.2.2.2]
          go_num
      · obtain rfl : k = L.length := by omega
        rw [List.take_of_length_le (Nat.le_refl _), ← HM.out]
        have HS := Lib.hid hb
        clear hb
        go_wp2_with fail
        go_ret
        refine ⟨?_, H3.out.2.2.trans (HS.out.mono H3.out.2.2.size)⟩
        simp
end Go.Proofs.Ytjkiapgboljabaa
