/- literal's iterator (each): what is plain is held back, and let out by flush. -/
import Derived.Test.YtihmjejcikpibaaDoorRfx
import Derived.Test.YtihmjejcikpibaaDoorLi8
namespace Go.Proofs.YtihmjejcikpibaaDoor
open Go.RowKit
set_option linter.unusedVariables false
set_option linter.unusedSimpArgs false
set_option maxRecDepth 100000
attribute [local go_sem] Oper.semAt_some
theorem bytes_back {W : World} {N : Nat} {v : Value} {l : List UInt8} (h : W.ownsRow N 5 1 v l.length (bvals l)) :
    (Go.convert 78 9 v).run Tryd.prog W = .ok (.string ⟨l.toArray⟩) W := by
  rcases h.2 with ⟨rfl, h0⟩ | ⟨g, cap, cur, rfl, _⟩
  · obtain rfl := List.eq_nil_of_length_eq_zero h0
    rw [run_convert_bytes_string W _ _ _ none 0 0 Tryd.underlying78 Tryd.underlying5 Tryd.underlying9]
    rfl
  · refine run_convert_bytes_back (P := Tryd.prog) W 78 9 5 ⟨g, 0, none⟩ cap l Tryd.underlying78 Tryd.underlying5 Tryd.underlying9 ?_
    intro j hj
    rw [Addr.add_lit, Nat.zero_add]
    refine own_cell h j _ ?_
    rw [bvals, List.getElem?_map, List.getElem?_eq_getElem hj]
    rfl
/-- Pieces as what is handed to yield. -/
abbrev encP (x : Pc) : Array Value := #[.agg #[.bool x.ex, .bool x.qu, .string ⟨x.tx.toArray⟩]]
/-- The word of a round: to the iterator. -/
def YW (l' : Nat) (N : List Pc) (n₀ : Nat) (Xc : Nat → Prop) (J Jx : (Nat → Prop) → List Pc → World → Prop) : Prop :=
  ∀ X pre x W1, J X pre W1 → pre ++ [x] <+: N → ∀ m, YieldAt Fence.wide m Tryd.prog l' (encP x) W1 fun e W' =>
    (e = .returned (.bool true) ∧ J X (pre ++ [x]) W' ∧ KeepX n₀ Xc W1 W' ∧ ∀ k, X k → W'.heap[k]? = W1.heap[k]?) ∨ (e = .returned (.bool false) ∧ Jx X (pre ++ [x]) W' ∧ KeepX n₀ Xc W1 W' ∧ ∀ k, X k → W'.heap[k]? = W1.heap[k]?)
/-- The boxes of the iterator: what is plain, and yield. -/
structure It (W : World) (X : Nat → Prop) (p y l' : Nat) (buf : List UInt8) (v : Value) : Prop where
  pb : Bk W p 78 #[v]
  own : W.ownsRow 0 5 1 v buf.length (bvals buf)
  yb : Bk W y 121 #[.func (.yield l') #[] #[]]
  xp : X p
  xy : X y
  xv : ∀ k, v.ownBlock = some k → X k
theorem It.same {W W' : World} {X Y : Nat → Prop} {p y l' : Nat} {buf : List UInt8} {v : Value} (h : It W X p y l' buf v) (hXY : ∀ k, X k → Y k) (hs : ∀ k, X k → W'.heap[k]? = W.heap[k]?) : It W' Y p y l' buf v := by
  refine ⟨(hs p h.xp).trans h.pb, ⟨h.own.1, ?_⟩, (hs y h.xy).trans h.yb, hXY _ h.xp, hXY _ h.xy, fun k hk => hXY k (h.xv k hk)⟩
  rcases h.own.2 with h2 | ⟨g, cap, cur, he, hg, hh, r⟩
  · exact .inl h2
  · exact .inr ⟨g, cap, cur, he, hg, (hs g (h.xv g (by rw [he]; rfl))).trans hh, r⟩
theorem It.below {W W' : World} {X Y : Nat → Prop} {p y l' : Nat} {buf : List UInt8} {v : Value} (h : It W X p y l' buf v) (hXY : ∀ k, X k → Y k) (hb : Below W.heap.size W W') : It W' Y p y l' buf v := by
  refine ⟨h.pb.below hb h.pb.lt, own_below h.own hb, h.yb.below hb h.yb.lt, hXY _ h.xp, hXY _ h.xy, fun k hk => hXY k (h.xv k hk)⟩
theorem It.ne {W : World} {X : Nat → Prop} {p y l' : Nat} {buf : List UInt8} {v : Value} (h : It W X p y l' buf v) : p ≠ y := by
  intro e
  have h1 := h.pb
  have h2 := h.yb
  unfold Bk at h1 h2
  rw [e, h2] at h1
  injection h1 with h1
  injection h1 with _ h1
  exact absurd h1 (by decide)
/-- The box of what is plain is written. -/
theorem It.put {W : World} {X : Nat → Prop} {p y l' : Nat} {buf buf' : List UInt8} {v v' : Value} (h : It W X p y l' buf v) (ho : W.ownsRow 0 5 1 v' buf'.length (bvals buf')) (hv : ∀ k, v'.ownBlock = some k → X k) : It (W.setCell ⟨p, 0, none⟩ v') X p y l' buf' v' :=
  ⟨by simpa using h.pb.set 0 v', own_far ho (own_ne ho h.pb (by decide)) _, h.yb.far h.ne.symm _, h.xp, h.xy, hv⟩
/-- All that the iterator has at a point: what has been told, its boxes, the reader. -/
structure At8 (J : (Nat → Prop) → List Pc → World → Prop) (W : World) (n₀ : Nat) (Xc X : Nat → Prop) (pre : List Pc) (p y l' : Nat) (buf : List UInt8) (v : Value) (b : Nat) (l : List UInt8) (A : Option Addr) (c m : Nat) : Prop where
  j : J X pre W
  it : It W X p y l' buf v
  rd : Rdr W n₀ Xc b l A c m
  xn : ∀ k, X k → n₀ ≤ k ∧ k < W.heap.size
  wn : n₀ ≤ W.heap.size
theorem At8.below {J : (Nat → Prop) → List Pc → World → Prop} (hF : Fits J) {W W' : World} {n₀ : Nat} {Xc X : Nat → Prop} {pre : List Pc} {p y l' : Nat} {buf : List UInt8} {v : Value} {b : Nat} {l : List UInt8} {A : Option Addr} {c m : Nat}
    (h : At8 J W n₀ Xc X pre p y l' buf v b l A c m) (hb : Below W.heap.size W W') : At8 J W' n₀ Xc (xNew X W W') pre p y l' buf v b l A c m :=
  ⟨hF _ _ _ _ h.j (XG.of_below hb), h.it.below (fun k hk => .inl hk) hb, h.rd.below hb h.wn, fun k hk => by
    rcases hk with hk | hk
    · have := h.xn k hk; have := hb.size; omega
    · have := h.wn; omega, Nat.le_trans h.wn hb.size⟩
theorem At8.put {J : (Nat → Prop) → List Pc → World → Prop} (hF : Fits J) {W : World} {n₀ : Nat} {Xc X : Nat → Prop} {pre : List Pc} {p y l' : Nat} {buf buf' : List UInt8} {v v' : Value} {b : Nat} {l : List UInt8} {A : Option Addr} {c m : Nat}
    (h : At8 J W n₀ Xc X pre p y l' buf v b l A c m) (ho : W.ownsRow 0 5 1 v' buf'.length (bvals buf')) (hv : ∀ k, v'.ownBlock = some k → X k) : At8 J (W.setCell ⟨p, 0, none⟩ v') n₀ Xc (xNew X W (W.setCell ⟨p, 0, none⟩ v')) pre p y l' buf' v' b l A c m := by
  have hx : XG X W (W.setCell ⟨p, 0, none⟩ v') := (XG.refl X W).set (.inl h.it.xp) 0 v'
  have hit := h.it.put ho hv
  refine ⟨hF _ _ _ _ h.j hx, ⟨hit.pb, hit.own, hit.yb, .inl hit.xp, .inl hit.xy, fun k hk => .inl (hit.xv k hk)⟩, ?_, fun k hk => by
    have hsz : (W.setCell ⟨p, 0, none⟩ v').heap.size = W.heap.size := by simp [World.setCell]
    rcases hk with hk | hk
    · have := h.xn k hk; omega
    · have := h.wn; omega, by have := h.wn; simpa [World.setCell] using this⟩
  exact h.rd.keep ((KeepX.refl _ _ _).set (.inl (h.xn _ h.it.xp).1) 0 v')
theorem At8.next {J J' : (Nat → Prop) → List Pc → World → Prop} {W W' : World} {n₀ : Nat} {Xc X : Nat → Prop} {pre pre' : List Pc} {p y l' : Nat} {buf : List UInt8} {v : Value} {b : Nat} {l : List UInt8} {A : Option Addr} {c m : Nat}
    (h : At8 J W n₀ Xc X pre p y l' buf v b l A c m) (hj : J' X pre' W') (hk : KeepX n₀ Xc W W') (hs : ∀ k, X k → W'.heap[k]? = W.heap[k]?) : At8 J' W' n₀ Xc X pre' p y l' buf v b l A c m :=
  ⟨hj, h.it.same (fun _ hk => hk) hs, h.rd.keep hk, fun k hk' => ⟨(h.xn k hk').1, Nat.lt_of_lt_of_le (h.xn k hk').2 hk.size⟩, Nat.le_trans h.wn hk.size⟩
set_option maxHeartbeats 2000000 in
theorem flush_in (n l' : Nat) (N : List Pc) (n₀ p y b c m : Nat) (Xc X : Nat → Prop) (l : List UInt8) (A : Option Addr) (J Jx : (Nat → Prop) → List Pc → World → Prop) (hF : Fits J) (hY : YW l' N n₀ Xc J Jx) (W : World) (pre : List Pc) (buf : List UInt8) (v : Value)
    (h : At8 J W n₀ Xc X pre p y l' buf v b l A c m) (hN : buf ≠ [] → pre ++ [⟨false, false, buf⟩] <+: N) :
    CallsIn Fence.wide n Tryd.prog 74 #[.pointer (some ⟨p, 0, none⟩), .pointer (some ⟨y, 0, none⟩)] W fun e W' =>
      (e = .returned (.bool true) ∧ ∃ X', (∀ k, X k → X' k) ∧ (∀ k, X k → k ≠ p → W'.heap[k]? = W.heap[k]?) ∧ KeepX n₀ Xc W W' ∧ At8 J W' n₀ Xc X' (pre ++ flP buf) p y l' [] (.slice none 0 0) b l A c m) ∨ (e = .returned (.bool false) ∧ ∃ X', Jx X' (pre ++ flP buf) W') := by
  have hcv := bytes_back h.it.own
  have y0 : W.cell? ⟨p, 0, none⟩ = some v := by rw [h.it.pb.cell]; rfl
  have f0 := h.it.pb.frozen 0
  have y1 : W.cell? ⟨y, 0, none⟩ = some (.func (.yield l') #[] #[]) := by rw [h.it.yb.cell]; rfl
  have hne : ¬ y = p := fun e => h.it.ne e.symm
  have h2 := h.put hF (buf' := []) (v' := .slice none 0 0) (World.ownsRow_nil _ _ _ _) (by intro k hk; simp [Value.ownBlock] at hk)
  obtain ⟨A1, n1, c1, hv⟩ := own_form' h.it.own
  subst hv
  have H := Lib.hid (And.intro h (And.intro h2 (And.intro hY hN)))
  clear h h2 hY hN
  cases buf with
  | nil =>
    refine callsIn_of_wp Tryd.func74 rfl trivial ?_ rfl
    simp only [Tryd.ntmps74, List.size_toArray, List.length_cons, List.length_nil, Nat.reduceAdd, Nat.reduceSub, Array.replicate_succ, Array.replicate_zero, List.push_toArray, List.append_toArray, List.nil_append, List.cons_append]
    gi_wp2_with fail
    refine ⟨(fun f h => by cases h), ?_⟩
    gi_wp2_with fail
    refine bodyPost_ret (results_tmp rfl _ _ _) rfl ?_
    refine .inl ⟨rfl, xNew X W (W.setCell ⟨p, 0, none⟩ (.slice none 0 0)), fun k hk => .inl hk, fun k _ hk => Below.heap_setCell _ _ _ k hk, (KeepX.refl _ _ _).set (.inl (H.out.1.xn _ H.out.1.it.xp).1) 0 _, ?_⟩
    rw [show flP [] = [] from rfl, List.append_nil]
    exact H.out.2.1
  | cons a r =>
    obtain ⟨fn, tmps, assign, body, hy, hR⟩ := H.out.2.2.1 _ pre ⟨false, false, a :: r⟩ _ H.out.2.1.j (H.out.2.2.2 (by simp)) (n - 1)
    have hR2 := Lib.hid hR
    clear hR
    simp only [encP] at hy
    have hy2 := Lib.hid hy
    clear hy
    refine callsIn_of_wp Tryd.func74 rfl trivial ?_ rfl
    simp only [Tryd.ntmps74, List.size_toArray, List.length_cons, List.length_nil, Nat.reduceAdd, Nat.reduceSub, Array.replicate_succ, Array.replicate_zero, List.push_toArray, List.append_toArray, List.nil_append, List.cons_append]
    gi_wp2_with fail
    rw [hy2.out]
    gi_wp2_with fail
    refine ⟨fun h => by simp [Fence.wide] at h, ?_⟩
    refine hR2.out.mono ?_
    rintro e W3 (⟨rfl, hJ3, hk3, hs3⟩ | ⟨rfl, hJx3, hk3, hs3⟩)
    · have H3 := Lib.hid (And.intro (H.out.2.1.next hJ3 hk3 hs3) (And.intro hs3 hk3))
      clear hJ3 hk3 hs3
      gi_wp2_with fail
      refine bodyPost_ret (results_tmp rfl _ _ _) rfl ?_
      exact .inl ⟨rfl, xNew X W (W.setCell ⟨p, 0, none⟩ (.slice none 0 0)), fun k hk => .inl hk, fun k hk hkp => (H3.out.2.1 k (.inl hk)).trans (Below.heap_setCell _ _ _ k hkp), ((KeepX.refl _ _ _).set (.inl (H.out.1.xn _ H.out.1.it.xp).1) 0 _).trans H3.out.2.2, H3.out.1⟩
    · have H3 := Lib.hid hJx3
      clear hJx3 hk3 hs3
      gi_wp2_with fail
      refine bodyPost_ret (results_tmp rfl _ _ _) rfl ?_
      exact .inr ⟨rfl, xNew X W (W.setCell ⟨p, 0, none⟩ (.slice none 0 0)), H3.out⟩
end Go.Proofs.YtihmjejcikpibaaDoor
