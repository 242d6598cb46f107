/- quillwortref09.Lex: the tokens of a text as the reference finds them. -/
import Derived.Test.YtffngggdelmkpaaGreatDoorRm9
import Derived.Test.YtffngggdelmkpaaGreatDoorLx9
namespace Go.Proofs.YtffngggdelmkpaaGreatDoor
open Go.RowKit
set_option linter.unusedVariables false
set_option linter.unusedSimpArgs false
set_option maxRecDepth 100000
/-- Where a document's beginning is awaited, there is one. -/
def LInv (X : Lx) (x : Nat) : Prop := (X.bd = true → X.pd ≠ []) ∧ X.pd.length ≤ x
theorem linv_step (l : List UInt8) (x : Nat) (X : Lx) (hx : x < l.length) (h : LInv X x) : LInv (stepL l x X).2 (stepL l x X).1.to := by
  have hto := stepL_to l x hx X
  obtain ⟨h1, h2⟩ := h
  unfold stepL at hto ⊢
  split
  · rename_i d r hb hp
    rw [hb, hp] at hto
    simp only at hto
    unfold docL at hto ⊢
    split
    · rename_i hok
      rw [if_pos hok] at hto
      refine ⟨fun h => ?_, ?_⟩
      · intro h3
        have h : (!r.isEmpty) = true := h
        have h3 : r = [] := h3
        rw [h3] at h
        cases h
      · show r.length ≤ _
        have : X.pd.length = r.length + 1 := by rw [hp]; rfl
        have := hto.2.1
        omega
    · rename_i hok
      rw [if_neg hok] at hto
      exact ⟨h1, by have := hto.2.1; show X.pd.length ≤ _; omega⟩
  · rename_i hne
    have hto2 : x < (plainL l x).to := (plainL_to l x hx).2.1
    refine ⟨?_, ?_⟩
    · unfold behindL
      split
      · intro h; cases h
      · split
        · intro h h3
          have h : (!X.pd.isEmpty) = true := h
          have h3 : X.pd = [] := h3
          rw [h3] at h
          cases h
        · split
          · intro h; cases h
          · split
            · intro h; cases h
            · intro h; cases h
    · show (behindL _ _ X).pd.length ≤ (plainL l x).to
      unfold behindL
      split
      · show X.pd.length ≤ _; omega
      · split
        · show X.pd.length ≤ _; omega
        · split
          · show X.pd.length ≤ _; omega
          · split
            · show (if _ then _ else _ : List Dl).length ≤ _
              split
              · rw [List.length_append]; show X.pd.length + 1 ≤ _; omega
              · omega
            · show X.pd.length ≤ _; omega
theorem lexA_step (l : List UInt8) (ts : List Tk) (x : Nat) (X : Lx) (hx : x < l.length) (h : lexL l = (ts ++ (lexA l x X).1, (lexA l x X).2)) :
    lexL l = ((ts ++ [(stepL l x X).1]) ++ (lexA l (stepL l x X).1.to (stepL l x X).2).1, (lexA l (stepL l x X).1.to (stepL l x X).2).2) := by
  rw [h, lexA_eq l x X, if_pos hx]
  simp
set_option maxHeartbeats 4000000 in
theorem rlex_m (l : List UInt8) (w : World) (hl : l.length ≤ 900) :
    Calls Tryz.prog 14 #[.string ⟨l.toArray⟩] w fun e w' => ∃ v1 v2, e = .returned (.tuple #[v1, v2]) ∧ w'.ownsRow w.heap.size 33 4 v1 (lexL l).1.length (tkcs (lexL l).1) ∧ LxP w' (lexL l).2 v2 ∧ Below w.heap.size w w' := by
  obtain ⟨i0, hi, hz0, hz1, hz2⟩ := info_parts Tryz.infoToken
  obtain ⟨LL, hLL⟩ : ∃ LL, LL = lexL l := ⟨_, rfl⟩
  rw [← hLL]
  have HLL := Lib.hid hLL
  clear hLL
  go_enter Tryz.func14, Tryz.ntmps14
  go_upto_region 3 with fail
  refine gen2 fun W hbW hk0 hk1 hsW => ?_
  have HW := Lib.hid (And.intro hbW (And.intro hk0 (And.intro hk1 hsW)))
  clear hbW hk0 hk1 hsW
  go_wp2_with fail
  go_loopw [4, 6, 7, 8] (fun o i a b wr => ∃ (ts : List Tk) (x : Nat) (X : Lx) (A : Option Addr) (c : Nat), i = .int .i64 (x : Int) ∧ x ≤ l.length ∧ ts.length ≤ x ∧ LInv X x ∧ wr.ownsRow (w.heap.size + 2) 33 4 o ts.length (tkcs ts) ∧
      Bk wr w.heap.size 26 #[.int .i64 0, .slice none 0 0, .bool false] ∧ Bk wr (w.heap.size + 1) 26 #[.int .i64 X.aw, .slice A X.pd.length c, .bool X.bd] ∧ Rt wr 75 2 (.slice A X.pd.length c) X.pd.length (dcls X.pd) ∧ Below w.heap.size w wr ∧ LL = (ts ++ (lexA l x X).1, (lexA l x X).2)) (fun o i a b _ => l.length - (intOf i).toNat)
  case atStart =>
    exact ⟨[], 0, lx0, none, 0, rfl, Nat.zero_le _, Nat.le_refl _, ⟨(fun h => by cases h), Nat.le_refl _⟩, World.ownsRow_nil _ _ _ _, HW.out.2.1, HW.out.2.2.1, Rt.nil _ _ _, HW.out.1, HLL.out⟩
  case round =>
    obtain ⟨ts, x, X, A, c, rfl, hxl, htl, hinv, hown, hk0, hk1, hrt, hbw, hLX⟩ := hrel
    obtain ⟨A2, n2, c2, rfl⟩ := own_form' hown
    obtain rfl := own_len hown
    by_cases hlt : x < l.length
    · have u1 : (x : Int) < (l.length : Int) := by omega
      have hstep := rstep_all l x X hl hlt hinv.1 A c
      have hinv2 := linv_step l x X hlt hinv
      have hto := stepL_to l x hlt X
      have hLX2 : LL = ((ts ++ [(stepL l x X).1]) ++ (lexA l (stepL l x X).1.to (stepL l x X).2).1, (lexA l (stepL l x X).1.to (stepL l x X).2).2) := by
        rw [hLX, lexA_eq l x X, if_pos hlt]
        simp
      generalize stepL l x X = TY at hstep hinv2 hto hLX2
      obtain ⟨⟨kd, fr, tt, op⟩, Y⟩ := TY
      obtain ⟨p0, p1, p2, p3, p4, p5⟩ := hk1.three
      have hsz : w.heap.size + 2 ≤ wr.heap.size := by have := hk1.lt; omega
      have HP := Lib.hid (And.intro hstep (And.intro hinv (And.intro hinv2 (And.intro hto (And.intro hLX2 (And.intro hown (And.intro hk0 (And.intro hk1 (And.intro hrt hbw)))))))))
      clear hstep hinv hinv2 hto hLX2 hown hk0 hk1 hrt hbw hLX
      go_wp2_with (first
        | (go_at_call 18
           refine (HP.out.1 wr HP.out.2.2.2.2.2.2.2.2.1 (by have := HP.out.2.1.2; omega)).mono ?_
           rintro e w5 ⟨v, rfl, ⟨v1, rfl, hr5⟩, hb5⟩
           obtain ⟨A1, c1, rfl⟩ := hr5.form
           unfold lxv tkv
           have H5 := Lib.hid (And.intro hr5 hb5)
           clear hr5 hb5)
        | (at_builtin
           refine wpList_append_rd rfl (.tmp 21) (.tmp 23) 23 rfl (w.heap.size + 2) 33 i0 _ 4 32 Tryz.underlying23 hi hz0 hz1 hz2 rfl (by decide) (.slice A2 ts.length c2) ts.length (tkcs ts) rfl ((((own_below HP.out.2.2.2.2.2.1 H5.out.2).alloc _).alloc _).alloc _) (.slice (some ⟨w5.heap.size + 1 + 1, 0, none⟩) 1 1) 1 (w5.heap.size + 1 + 1 + 1) (tkcs [⟨kd, fr, tt, op⟩]) rfl (by have hr := rd_new ((w5.alloc (.cells #[.int .i64 (kd : Int), .int .i64 (fr : Int), .int .i64 (tt : Int), .bool op] 33)).alloc (.cells #[.int .i64 Y.aw, .slice A1 Y.pd.length c1, .bool Y.bd] 26)) (tkcs [⟨kd, fr, tt, op⟩]) 33 4 1 rfl (by omega); rw [show ((w5.alloc (.cells #[.int .i64 (kd : Int), .int .i64 (fr : Int), .int .i64 (tt : Int), .bool op] 33)).alloc (.cells #[.int .i64 Y.aw, .slice A1 Y.pd.length c1, .bool Y.bd] 26)).heap.size = w5.heap.size + 1 + 1 by simp] at hr; exact hr) (one_tk _) (by unfold maxLen; omega) (by omega) (by have := H5.out.2.size; simp; omega) ?_
           intro v3 w3 hown3 hg3 hv3
           have hne : ∀ k, (Value.slice A2 ts.length c2).ownBlock = some k → w.heap.size + 2 ≤ k ∧ k < wr.heap.size := fun k hk => HP.out.2.2.2.2.2.1.lt k hk
           have h5s := H5.out.2.size
           have m0 : Bk w3 w.heap.size 26 #[.int .i64 0, .slice none 0 0, .bool false] := ((((HP.out.2.2.2.2.2.2.1.below H5.out.2 HP.out.2.2.2.2.2.2.1.lt).alloc _).alloc _).alloc _).grown hg3 (fun e => by have := (hne _ e.symm).1; omega)
           have m1 : Bk w3 (w.heap.size + 1) 26 #[.int .i64 X.aw, .slice A X.pd.length c, .bool X.bd] := ((((HP.out.2.2.2.2.2.2.2.1.below H5.out.2 HP.out.2.2.2.2.2.2.2.1.lt).alloc _).alloc _).alloc _).grown hg3 (fun e => by have := (hne _ e.symm).1; omega)
           have m7 : Bk w3 w5.heap.size 33 #[.int .i64 (kd : Int), .int .i64 (fr : Int), .int .i64 (tt : Int), .bool op] := (((Bk.new w5 _ _).alloc _).alloc _).grown hg3 (fun e => by have := (hne _ e.symm).2; omega)
           have m8 : Bk w3 (w5.heap.size + 1) 26 #[.int .i64 Y.aw, .slice A1 Y.pd.length c1, .bool Y.bd] := ((bk_second w5 _ _ _ _).alloc _).grown hg3 (fun e => by have := (hne _ e.symm).2; omega)
           have hr3 : Rt w3 75 2 (.slice A1 Y.pd.length c1) Y.pd.length (dcls Y.pd) := (((H5.out.1.next (Below.alloc (Below.refl _ _) (Nat.le_refl _) _)).next (Below.alloc (Below.refl _ _) (Nat.le_refl _) _)).next (Below.alloc (Below.refl _ _) (Nat.le_refl _) _)).keep hg3 (fun kk hk => by obtain ⟨cs, t2, fr2, h1, h2⟩ := own_blk ((((own_below HP.out.2.2.2.2.2.1 H5.out.2).alloc _).alloc _).alloc _) kk hk; exact ⟨t2, cs, fr2, h1, by rw [h2]; decide⟩)
           have hb5w : Below w.heap.size w w5 := HP.out.2.2.2.2.2.2.2.2.2.trans (H5.out.2.mono HP.out.2.2.2.2.2.2.2.2.2.size)
           have hb3 : Below w.heap.size w w3 := Below.grown (((hb5w.alloc hb5w.size _).alloc (by simp; omega) _).alloc (by simp; omega) _) hg3 (by simp; omega) (fun k hk => by have := (hne k hk).1; omega)
           obtain ⟨A3, n3, c3, rfl⟩ := own_form' hown3
           obtain rfl := own_len hown3
           clear p0 p1 p2 p3 p4 p5
           obtain ⟨p0, p1, p2, p3, p4, p5⟩ := m1.three
           obtain ⟨q0, q1, q2, q3, _⟩ := m7.four
           obtain ⟨r0, r1, r2, _⟩ := m8.three
           have s1 : ¬ w5.heap.size = w.heap.size + 1 := by omega
           have s2 : ¬ w5.heap.size + 1 = w.heap.size + 1 := by omega
           have s3 : ¬ w.heap.size + 1 = w5.heap.size := by omega
           have H3 := Lib.hid (And.intro hown3 (And.intro hg3 (And.intro m0 (And.intro m1 (And.intro m7 (And.intro m8 (And.intro hr3 hb3)))))))
           clear hown3 hg3 hv3 m0 m1 m7 m8 hne h5s hr3 hb3 hb5w))
      have o3 := H3.out.1
      have ne1 : (Value.slice A3 (ts.length + 1) c3).ownBlock ≠ some (w.heap.size + 1) := fun h => by have := (o3.lt _ h).1; omega
      have z1 := ((H3.out.2.2.2.1.set 0 (.int .i64 Y.aw)).set 1 (.slice A1 Y.pd.length c1)).set 2 (.bool Y.bd)
      have z0 := ((H3.out.2.2.1.far (p := ⟨w.heap.size + 1, 0, none⟩) (by show w.heap.size ≠ w.heap.size + 1; omega) (.int .i64 Y.aw)).far (p := ⟨w.heap.size + 1, 1, none⟩) (by show w.heap.size ≠ w.heap.size + 1; omega) (.slice A1 Y.pd.length c1)).far (p := ⟨w.heap.size + 1, 2, none⟩) (by show w.heap.size ≠ w.heap.size + 1; omega) (.bool Y.bd)
      have zo := own_far (p := ⟨w.heap.size + 1, 2, none⟩) (own_far (p := ⟨w.heap.size + 1, 1, none⟩) (own_far (p := ⟨w.heap.size + 1, 0, none⟩) o3 ne1 (.int .i64 Y.aw)) ne1 (.slice A1 Y.pd.length c1)) ne1 (.bool Y.bd)
      have zr := H3.out.2.2.2.2.2.2.1.keep (grown_set (grown_set (grown_set (grown_refl w3 (some (w.heap.size + 1))) 0 (.int .i64 Y.aw)) 1 (.slice A1 Y.pd.length c1)) 2 (.bool Y.bd)) (H3.out.2.2.2.1.row (by decide))
      have zb := ((H3.out.2.2.2.2.2.2.2.setCell (p := ⟨w.heap.size + 1, 0, none⟩) (by show w.heap.size ≤ w.heap.size + 1; omega) (.int .i64 Y.aw)).setCell (p := ⟨w.heap.size + 1, 1, none⟩) (by show w.heap.size ≤ w.heap.size + 1; omega) (.slice A1 Y.pd.length c1)).setCell (p := ⟨w.heap.size + 1, 2, none⟩) (by show w.heap.size ≤ w.heap.size + 1; omega) (.bool Y.bd)
      obtain ⟨t1, t2, t3, _⟩ := HP.out.2.2.2.1
      have t2 : x < tt := t2
      have t3 : tt ≤ l.length := t3
      refine ⟨⟨ts ++ [⟨kd, fr, tt, op⟩], tt, Y, A1, c1, rfl, t3, by simp; omega, HP.out.2.2.1, ?_, z0, z1, zr, zb, HP.out.2.2.2.2.1⟩, by simp [intOf]; omega⟩
      rw [tkcs_app, List.length_append]
      exact zo
    · obtain rfl : x = l.length := by omega
      have hend : LL = (ts, X) := by rw [hLX, lexA_eq, if_neg (by omega)]; simp
      obtain ⟨p0, p1, p2, p3, p4, p5⟩ := hk1.three
      obtain ⟨q0, q1, q2, q3, q4, q5⟩ := hk0.three
      have HP := Lib.hid (And.intro hown (And.intro hk0 (And.intro hk1 (And.intro hrt hbw))))
      clear hown hk0 hk1 hrt hbw hLX hinv HLL
      subst hend
      have s1 : ¬ w.heap.size + 1 = w.heap.size := by omega
      have s2 : ¬ w.heap.size = w.heap.size + 1 := by omega
      go_wp2_with fail
      go_region
      all_goals (
        have ne0 : (Value.slice A2 ts.length c2).ownBlock ≠ some w.heap.size := fun h => by have := (HP.out.1.lt _ h).1; omega
        have z0 := ((HP.out.2.1.set 0 (.int .i64 X.aw)).set 1 (.slice A X.pd.length c)).set 2 (.bool X.bd)
        have zo := own_far (p := ⟨w.heap.size, 2, none⟩) (own_far (p := ⟨w.heap.size, 1, none⟩) (own_far (p := ⟨w.heap.size, 0, none⟩) HP.out.1 ne0 (.int .i64 X.aw)) ne0 (.slice A X.pd.length c)) ne0 (.bool X.bd)
        have zr := HP.out.2.2.2.1.keep (grown_set (grown_set (grown_set (grown_refl wr (some w.heap.size)) 0 (.int .i64 X.aw)) 1 (.slice A X.pd.length c)) 2 (.bool X.bd)) (HP.out.2.1.row (by decide))
        have zb := ((HP.out.2.2.2.2.setCell (p := ⟨w.heap.size, 0, none⟩) (Nat.le_refl _) (.int .i64 X.aw)).setCell (p := ⟨w.heap.size, 1, none⟩) (Nat.le_refl _) (.slice A X.pd.length c)).setCell (p := ⟨w.heap.size, 2, none⟩) (Nat.le_refl _) (.bool X.bd)
        have z0 : Bk _ w.heap.size 26 #[.int .i64 X.aw, .slice A X.pd.length c, .bool X.bd] := z0
        generalize World.setCell _ _ _ = W5 at z0 zo zr zb ⊢
        obtain ⟨t0, t1, t2, _⟩ := z0.three
        try go_wp2
        refine bodyPost_ret (v := .tuple #[.slice A2 ts.length c2, lxv X.aw (.slice A X.pd.length c) X.bd]) (by simp [results, Tryz.results14, go_sem, lxv, t0, t1, t2]) rfl ?_
        exact ⟨_, _, rfl, own_base zo (by omega), ⟨_, rfl, zr⟩, by first | exact zb | exact below_drewN' zb 1⟩)
theorem lexF_inv (l : List UInt8) : ∀ (m x : Nat) (X : Lx), x ≤ l.length → LInv X x → (lexF l m x X).2.pd.length ≤ l.length
  | 0, x, X, hx, h => Nat.le_trans h.2 hx
  | m + 1, x, X, hx, h => by
    unfold lexF
    by_cases hlt : x < l.length
    · rw [if_pos hlt]
      exact lexF_inv l m _ _ (stepL_to l x hlt X).2.2.1 (linv_step l x X hlt h)
    · rw [if_neg hlt]
      exact Nat.le_trans h.2 hx
theorem lexL_pd (l : List UInt8) : (lexL l).2.pd.length ≤ l.length := lexF_inv l _ 0 lx0 (Nat.zero_le _) ⟨(fun h => by cases h), Nat.le_refl _⟩
end Go.Proofs.YtffngggdelmkpaaGreatDoor
