/- strings.Builder: WriteString and String over this program (the proofs follow the kit's contracts of the shelf, at this program's own numbers). -/
import Derived.Test.YtihmjejcikpibaaDoorDb8
import Derived.Lib.Builder
import Derived.Lib.UnsafeStr
import Derived.Lib.Strings
import Derived.Laws.Externs
namespace Go.Proofs.YtihmjejcikpibaaDoor
open Go.RowKit
set_option linter.unusedVariables false
set_option linter.unusedSimpArgs false
set_option maxRecDepth 100000
theorem Tryd.sizeBuilder : (Tryd.prog.info? 85).map (·.size) = some 2 := by kernel_rfl
theorem Tryd.liesBuilder : liesAt Tryd.prog Tryd.prog.depth 85 (2 / Tryd.prog.cellsOf 85) 0 85 1 = true := by kernel_rfl
theorem Tryd.cellsByte : Tryd.prog.cellsOf 5 = 1 := by kernel_rfl
set_option maxHeartbeats 1000000 in
theorem copyCheck_used (b : Nat) (w : World) (h0 : w.cell? ⟨b, 0, none⟩ = some (.pointer (some ⟨b, 0, none⟩))) :
    Calls Tryd.prog 79 #[.pointer (some ⟨b, 0, none⟩)] w fun e w' => e = .returned (.tuple #[]) ∧ w' = w := by
  obtain ⟨j, hj, _⟩ := Option.map_eq_some_iff.1 Tryd.sizeBuilder
  go_enter Tryd.func79, Tryd.ntmps79
  go_wp2
  rw [Lib.run_neq_ptr_same w _ Tryd.underlying83 hj]
  go_wp2
  go_end0
  exact ⟨rfl, rfl⟩
set_option maxHeartbeats 1000000 in
theorem copyCheck_fresh (b : Nat) (w : World) (h0 : w.cell? ⟨b, 0, none⟩ = some (.pointer none)) (hsh : w.shape? b = some (85, 2)) (hfz : w.frozen? ⟨b, 0, none⟩ = false) :
    Calls Tryd.prog 79 #[.pointer (some ⟨b, 0, none⟩)] w fun e w' => e = .returned (.tuple #[]) ∧ w' = w.setCell ⟨b, 0, none⟩ (.pointer (some ⟨b, 0, none⟩)) := by
  obtain ⟨j, hj, hjs⟩ := Option.map_eq_some_iff.1 Tryd.sizeBuilder
  go_enter Tryd.func79, Tryd.ntmps79
  go_wp2
  rw [Lib.run_to_unsafe w ⟨b, 0, none⟩ Tryd.underlying83 Tryd.underlying142 hj (by rw [hjs]; decide) hsh (Nat.zero_lt_succ 1)]
  go_wp2
  rw [run_callFunc_extern Tryd.func94 (by kernel_rfl) (by kernel_rfl) (by kernel_rfl) (e := Extern.AbiNoEscape.same) (by kernel_rfl)]
  rw [Lib.run_noEscape]
  simp only [Result.andThen]
  rw [Oper.upon_value]
  go_wp2
  rw [Lib.run_from_unsafe w ⟨b, 0, none⟩ Tryd.underlying142 Tryd.underlying83 hj hsh Tryd.liesBuilder]
  go_wp2
  go_end0
  exact ⟨rfl, rfl⟩
/-- A builder in a block of its own, from B on, holding bytes; its row lies from N on. -/
def Bld (w : World) (B N b : Nat) (l : List UInt8) : Prop := ∃ p v, (p = .pointer none ∨ p = .pointer (some ⟨b, 0, none⟩)) ∧ B ≤ b ∧ Bk w b 85 #[p, v] ∧ w.ownsRow N 5 1 v l.length (bvals l)
theorem bk_shape {w : World} {g : Nat} {t : TypeId} {a b : Value} (h : Bk w g t #[a, b]) : w.shape? g = some (t, 2) := by
  unfold Bk at h
  simp [World.shape?, h]
theorem copyCheck_b (w : World) (b : Nat) (p v : Value) (hp : p = .pointer none ∨ p = .pointer (some ⟨b, 0, none⟩)) (hb : Bk w b 85 #[p, v]) :
    Calls Tryd.prog 79 #[.pointer (some ⟨b, 0, none⟩)] w fun e w' => e = .returned (.tuple #[]) ∧ Bk w' b 85 #[.pointer (some ⟨b, 0, none⟩), v] ∧ w.grownBy w' (some b) ∧ w'.heap.size = w.heap.size := by
  rcases hp with rfl | rfl
  · refine (copyCheck_fresh b w (by rw [hb.cell]; rfl) (bk_shape hb) (hb.frozen 0)).mono ?_
    rintro e w' ⟨rfl, rfl⟩
    exact ⟨rfl, by simpa using hb.set 0 (.pointer (some ⟨b, 0, none⟩)), grownBy_setCell' w b _, by simp [World.setCell]⟩
  · refine (copyCheck_used b w (by rw [hb.cell]; rfl)).mono ?_
    rintro e w' ⟨rfl, rfl⟩
    exact ⟨rfl, hb, grown_refl _ _, rfl⟩
theorem wpList_append_str {P : Program} (w : World) {ops : Array Oper} {rest : List Oper} {o : Oper} {a : Act} {Q : Exit → Act → World → Prop} (hgd : o.guard = none) (s x : Operand) (t u : TypeId)
    (ho : o.op = .call { callee := .builtin .append, args := #[s, x], argTypes := #[t, u] })
    (base : Nat) (e : TypeId) (i : TypeInfo) (ht : P.underlying t = some (.slice e)) (hu : P.underlying u = some .string) (hi : P.info? e = some i) (hz : i.zero = some (.int .u8 0)) (hsize : i.size = 1) (hby : i.bytes = 1)
    (v : Value) (k : Nat) (xs : List Value) (hs : a.eval s = v) (hown : w.ownsRow base e 1 v k xs) (y : ByteArray) (hx : a.eval x = .string y)
    (h63 : k + y.size ≤ maxLen) (hbytes : k + y.size ≤ 140737488355328) (hbase : base ≤ w.heap.size)
    (h : ∀ v' w', w'.ownsRow base e 1 v' (k + y.size) (xs ++ Lib.strCells y) → w.grownBy w' v.ownBlock → (v'.ownBlock = v.ownBlock ∨ v'.ownBlock = some w.heap.size) → wpList P ops Q rest (a.put o.dst v') w') : wpList P ops Q (o :: rest) a w := by
  refine wpList_plain hgd fun K hK => ?_
  obtain ⟨v', w', hr, h2, h3, h4⟩ := run_append_str (P := P) w base t u o.type e i ht hu hi hz hsize hby v k xs hown y h63 hbytes hbase
  unfold Oper.wp execOp
  simp only [ho, resolve, invoke, builtin, Sem.run_bind, Sem.run_pure, Result.andThen_ok, List.map_toArray, List.map_cons, List.map_nil, hs, hx, hr]
  exact hK _ _ (h v' w' h2 h3 h4)
set_option maxHeartbeats 2000000 in
/-- WriteString: what turns is the builder's block and its row. -/
theorem write_b (w : World) (N b : Nat) (p v : Value) (l t : List UInt8) (hp : p = .pointer none ∨ p = .pointer (some ⟨b, 0, none⟩)) (hb : Bk w b 85 #[p, v]) (ho : w.ownsRow N 5 1 v l.length (bvals l)) (hN : N ≤ w.heap.size) (hlen : l.length + t.length ≤ 100000000) :
    Calls Tryd.prog 53 #[.pointer (some ⟨b, 0, none⟩), .string ⟨t.toArray⟩] w fun e w' => e = .returned (.tuple #[.int .i64 (t.length : Int), .nilIface]) ∧ ∃ v',
      Bk w' b 85 #[.pointer (some ⟨b, 0, none⟩), v'] ∧ w'.ownsRow N 5 1 v' (l ++ t).length (bvals (l ++ t)) ∧ (v'.ownBlock = v.ownBlock ∨ v'.ownBlock = some w.heap.size) ∧
      w'.os = w.os ∧ w'.tape = w.tape ∧ w'.output = w.output ∧ w.heap.size ≤ w'.heap.size ∧ ∀ k, k < w.heap.size → k ≠ b → some k ≠ v.ownBlock → w'.heap[k]? = w.heap[k]? := by
  obtain ⟨i0, hi, hz0, hz1, hz2⟩ := info_parts Tryd.infoByte
  have H := Lib.hid (And.intro hb (And.intro ho hp))
  clear hb ho hp
  go_enter Tryd.func53, Tryd.ntmps53
  go_wp2_with (first
    | (go_at_call 79
       refine (copyCheck_b w b p v H.out.2.2 H.out.1).mono ?_
       rintro e w1 ⟨rfl, hb1, hg1, hz1⟩
       have ho1 := H.out.2.1.kept hg1 (.inr (own_ne H.out.2.1 H.out.1 (by decide)))
       have c0 := hb1.cell 0
       have c1 := hb1.cell 1
       simp only [List.getElem?_toArray, List.getElem?_cons_zero, List.getElem?_cons_succ] at c0 c1
       have hs1 := hg1.size
       have H1 := Lib.hid (And.intro hb1 (And.intro hg1 (And.intro ho1 hz1)))
       clear hb1 hg1 ho1 hz1)
    | (at_builtin
       refine wpList_append_str _ rfl (.tmp 12) (.tmp 13) 78 9 rfl N 5 i0 Tryd.underlying78 Tryd.underlying9 hi hz0 ‹i0.size = 1› hz2 v l.length (bvals l) rfl H1.out.2.2.1 ⟨t.toArray⟩ rfl (by show l.length + t.length ≤ maxLen; unfold maxLen; omega) (by show l.length + t.length ≤ _; omega) (by omega) ?_
       intro v2 w2 hown2 hg2 hv2
       obtain ⟨A2, n2, c2, rfl⟩ := own_form' hown2
       have hb2 := H1.out.1.grown hg2 (own_ne H1.out.2.2.1 H1.out.1 (by decide)).symm
       have d0 := hb2.cell 0
       have d1 := hb2.cell 1
       have f1 := hb2.frozen 1
       simp only [List.getElem?_toArray, List.getElem?_cons_zero, List.getElem?_cons_succ] at d0 d1
       have H2 := Lib.hid (And.intro hown2 (And.intro hg2 (And.intro hv2 hb2)))
       clear hown2 hg2 hv2 hb2))
  obtain ⟨hb1, hg1, ho1, hz⟩ := H1.out
  obtain ⟨hown2, hg2, hv2, hb2⟩ := H2.out
  go_ret2
  refine ⟨rfl, .slice A2 n2 c2, by simpa using hb2.set 1 (.slice A2 n2 c2), own_far (by rw [List.length_append, bvals_app, ← str_cells t]; exact hown2) (own_ne hown2 hb2 (by decide)) _, by rw [← hz]; exact hv2, hg2.os.trans hg1.os, hg2.tape.trans hg1.tape, hg2.output.trans hg1.output, by have := hg2.size; simpa [World.setCell] using Nat.le_trans hs1 this, fun k hk hkb hkv => ?_⟩
  exact (Below.heap_setCell _ _ _ k hkb).trans ((hg2.block k (by omega) hkv).trans (hg1.block k hk (by intro e; injection e with e; exact hkb e)))
theorem grown_freeze (w : World) (g n : Nat) : w.grownBy (w.drew.freeze ⟨g, 0, none⟩ n) (some g) := by
  unfold World.freeze
  split
  · exact ⟨rfl, rfl, rfl, Nat.le_refl _, fun _ _ _ => rfl⟩
  · refine ⟨rfl, rfl, rfl, ?_, fun k hk hne => ?_⟩
    · show w.heap.size ≤ (w.heap.modify g _).size
      simp
    · show (w.heap.modify g _)[k]? = w.heap[k]?
      rw [Array.getElem?_modify, if_neg (by intro e; exact hne (by rw [e]))]
theorem grown_drew (w : World) (row : Option Nat) : w.grownBy w.drew row := ⟨rfl, rfl, rfl, Nat.le_refl _, fun _ _ _ => rfl⟩
theorem grown_drew_alloc (w : World) (o : Obj) (row : Option Nat) : w.grownBy (w.drew.alloc o) row :=
  ⟨rfl, rfl, rfl, by simp, fun k hk _ => Below.heap_alloc w.drew o k hk⟩
theorem strS_some (w : World) (b g cap : Nat) (p : Value) (l : List UInt8) (hb : Bk w b 85 #[p, .slice (some ⟨g, 0, none⟩) l.length cap]) (N : Nat) (ho : w.ownsRow N 5 1 (.slice (some ⟨g, 0, none⟩) l.length cap) l.length (bvals l)) (h0 : l ≠ []) :
    Calls Tryd.prog 54 #[.pointer (some ⟨b, 0, none⟩)] w fun e w' => e = .returned (.string ⟨l.toArray⟩) ∧ w.grownBy w' (some g) := by
  have hl0 : l.length ≠ 0 := by simpa using h0
  obtain ⟨_, hnc, hcm, hNg, hgl⟩ := own_le ho
  have hgh := own_heap ho
  have c1 : w.drew.cell? ⟨b, 1, none⟩ = some (.slice (some ⟨g, 0, none⟩) l.length cap) := by rw [hb.drew.cell]; rfl
  have hSD : (Builtin.unsafeSliceData_ #[78] 128 #[.slice (some ⟨g, 0, none⟩) l.length cap]).run Tryd.prog w.drew = .ok (.pointer (some ⟨g, 0, none⟩)) w.drew :=
    Lib.run_unsafeSliceData_row _ _ _ _ _ _ (by omega)
  obtain ⟨cur, hcur, hcs⟩ : ∃ cur, w.heap[g]? = some (.cells cur 5 (0, 0)) ∧ cur.size = cap := by
    rcases ho.2 with ⟨h, _⟩ | ⟨g', cap', cur, he, _, hh, _, _, hcs, _⟩
    · cases h
    · cases he
      exact ⟨cur, hh, by omega⟩
  have hUS : (Builtin.unsafeString_ #[128, 3] 9 #[.pointer (some ⟨g, 0, none⟩), .int .i64 l.length]).run Tryd.prog w.drew = .ok (.string ⟨l.toArray⟩) (w.drew.freeze ⟨g, 0, none⟩ l.length) := by
    refine Lib.run_unsafeString_row w.drew 128 3 9 5 Tryd.underlying128 Tryd.cellsByte g cur.size (by have hg' : w.drew.heap[g]? = some (.cells cur 5 (0, 0)) := hcur; simp [World.shape?, hg']) l h0 (by omega) (by unfold maxLen at hcm; omega) ?_
    intro j x hx
    have := ho.cells (g := g) rfl j (.int .u8 x.toNat) (by simp [bvals, hx])
    exact this
  have H := Lib.hid (And.intro ho hb)
  clear ho hb hgh hcur hcs
  go_enter Tryd.func54, Tryd.ntmps54
  go_wp2
  go_region
  all_goals (
    go_wp2
    go_ret
    exact ⟨rfl, grown_freeze w g _⟩)
theorem strS_nil (w : World) (b : Nat) (p : Value) (hb : Bk w b 85 #[p, .slice none 0 0]) (row : Option Nat) :
    Calls Tryd.prog 54 #[.pointer (some ⟨b, 0, none⟩)] w fun e w' => e = .returned (.string ⟨#[]⟩) ∧ w.grownBy w' row := by
  have hUS : ∀ (W : World) (q : Option Addr), (Builtin.unsafeString_ #[128, 3] 9 #[.pointer q, .int .i64 0]).run Tryd.prog W = .ok (.string .empty) W := fun W q => Lib.run_unsafeString_none W _ _ _ q
  have c1 : w.drew.cell? ⟨b, 1, none⟩ = some (.slice none 0 0) := by rw [hb.drew.cell]; rfl
  have hSD : (Builtin.unsafeSliceData_ #[78] 128 #[.slice none 0 0]).run Tryd.prog w.drew = .ok (.pointer none) w.drew := rfl
  go_enter Tryd.func54, Tryd.ntmps54
  go_wp2
  go_region
  all_goals (
    go_wp2
    go_ret
    exact ⟨rfl, grown_drew w row⟩)
theorem strS_room (w : World) (b g cap : Nat) (p : Value) (hc0 : cap ≠ 0) (hb : Bk w b 85 #[p, .slice (some ⟨g, 0, none⟩) 0 cap]) (row : Option Nat) :
    Calls Tryd.prog 54 #[.pointer (some ⟨b, 0, none⟩)] w fun e w' => e = .returned (.string ⟨#[]⟩) ∧ w.grownBy w' row := by
  have hUS : ∀ (W : World) (q : Option Addr), (Builtin.unsafeString_ #[128, 3] 9 #[.pointer q, .int .i64 0]).run Tryd.prog W = .ok (.string .empty) W := fun W q => Lib.run_unsafeString_none W _ _ _ q
  have c1 : w.drew.cell? ⟨b, 1, none⟩ = some (.slice (some ⟨g, 0, none⟩) 0 cap) := by rw [hb.drew.cell]; rfl
  have hSD : (Builtin.unsafeSliceData_ #[78] 128 #[.slice (some ⟨g, 0, none⟩) 0 cap]).run Tryd.prog w.drew = .ok (.pointer (some ⟨g, 0, none⟩)) w.drew :=
    Lib.run_unsafeSliceData_row _ _ _ _ _ _ hc0
  clear hc0
  go_enter Tryd.func54, Tryd.ntmps54
  go_wp2
  go_region
  all_goals (
    go_wp2
    go_ret
    exact ⟨rfl, grown_drew w row⟩)
theorem strS_noroom (w : World) (b g : Nat) (p : Value) (cur : Array Value) (hb : Bk w b 85 #[p, .slice (some ⟨g, 0, none⟩) 0 0]) (hg : w.heap[g]? = some (.cells cur 5 (0, 0))) (row : Option Nat) :
    Calls Tryd.prog 54 #[.pointer (some ⟨b, 0, none⟩)] w fun e w' => e = .returned (.string ⟨#[]⟩) ∧ w.grownBy w' row := by
  have hUS : ∀ (W : World) (q : Option Addr), (Builtin.unsafeString_ #[128, 3] 9 #[.pointer q, .int .i64 0]).run Tryd.prog W = .ok (.string .empty) W := fun W q => Lib.run_unsafeString_none W _ _ _ q
  have c1 : w.drew.cell? ⟨b, 1, none⟩ = some (.slice (some ⟨g, 0, none⟩) 0 0) := by rw [hb.drew.cell]; rfl
  have c0 : w.cell? ⟨b, 1, none⟩ = some (.slice (some ⟨g, 0, none⟩) 0 0) := c1
  have hSD : (Builtin.unsafeSliceData_ #[78] 128 #[.slice (some ⟨g, 0, none⟩) 0 0]).run Tryd.prog w.drew = .ok (.pointer (some ⟨w.drew.heap.size, 0, none⟩)) (w.drew.alloc (.view ⟨g, 0, none⟩ 5)) :=
    Lib.run_unsafeSliceData_zero w.drew _ _ 5 Tryd.underlying128 ⟨g, 0, none⟩ 0 (5, cur.size) (by have hg' : w.drew.heap[g]? = some (.cells cur 5 (0, 0)) := hg; simp [World.shape?, hg'])
  have c2 : (w.drew.alloc (.view ⟨g, 0, none⟩ 5)).cell? ⟨b, 1, none⟩ = some (.slice (some ⟨g, 0, none⟩) 0 0) := by rw [(hb.drew.alloc (.view ⟨g, 0, none⟩ 5)).cell]; rfl
  have c3 : (w.alloc (.view ⟨g, 0, none⟩ 5)).drew.cell? ⟨b, 1, none⟩ = some (.slice (some ⟨g, 0, none⟩) 0 0) := c2
  clear hb hg
  go_enter Tryd.func54, Tryd.ntmps54
  go_wp2
  go_region
  all_goals (
    go_wp2
    go_ret
    exact ⟨rfl, grown_drew_alloc w _ row⟩)
/-- String, whatever the builder holds. -/
theorem str_b (w : World) (b : Nat) (p v : Value) (l : List UInt8) (N : Nat) (hb : Bk w b 85 #[p, v]) (ho : w.ownsRow N 5 1 v l.length (bvals l)) :
    Calls Tryd.prog 54 #[.pointer (some ⟨b, 0, none⟩)] w fun e w' => e = .returned (.string ⟨l.toArray⟩) ∧ w.grownBy w' v.ownBlock := by
  cases l with
  | cons x r =>
    obtain ⟨g, cap, rfl⟩ := own_some ho
    exact strS_some w b g cap p (x :: r) hb N ho (by simp)
  | nil =>
    rcases ho.2 with ⟨rfl, _⟩ | ⟨g, cap, cur, rfl, _, hg, _⟩
    · exact strS_nil w b p hb _
    · by_cases hc0 : cap = 0
      · subst hc0
        exact strS_noroom w b g p cur hb hg _
      · exact strS_room w b g cap p hc0 hb _
end Go.Proofs.YtihmjejcikpibaaDoor
