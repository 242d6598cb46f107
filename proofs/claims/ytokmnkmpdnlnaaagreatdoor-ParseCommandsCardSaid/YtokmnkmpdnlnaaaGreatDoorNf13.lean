/- The reference's parser in memory: the box of a Now, the leaves that it reads and the nodes that it has made. PRINTED by gen_nk13.py out of XMk13. -/
import Derived.Test.YtokmnkmpdnlnaaaGreatDoorMb13
import Derived.Test.YtokmnkmpdnlnaaaGreatDoorRh13
import Derived.Test.YtokmnkmpdnlnaaaGreatDoorPm13
namespace Go.Proofs.YtokmnkmpdnlnaaaGreatDoor
open Go.RowKit
set_option linter.unusedVariables false
set_option linter.unusedSimpArgs false
set_option maxRecDepth 100000
def sgs (F:List Lf):List UInt8:=F.map sgnL
structure Fn (g:Nat) (W W':World):Prop where
  hb:Below g W W'
  kt:KT [53,32] W W'
theorem Fn.refl (g:Nat) (W:World):Fn g W W:=⟨Below.refl _ _,KT.refl _ _⟩
theorem Fn.trans {g:Nat} {a b c:World} (h:Fn g a b) (k:Fn g b c):Fn g a c:=⟨h.hb.trans k.hb,h.kt.trans k.kt⟩
theorem Fn.of {g:Nat} {W W':World} (hb:Below W.heap.size W W') (hg:g≤W.heap.size):Fn g W W':=⟨hb.mono hg,KT.of_below hb⟩
structure Nk (g:Nat) (fv:Value) (F:List Lf) (s:Ps) (W:World):Prop where
  w:∃lv,Bk W g 53 #[fv,.string ⟨(sgs F).toArray⟩,lv,.int .i64 (s.p:Int),.int .i64 s.up,.int .i64 (s.deep:Int)]∧W.ownsRow g 32 4 lv s.l.length (ndcs s.l)
  f:Rd W g 4 fv F.length (lfcs F)
theorem Nk.lt {g:Nat} {fv:Value} {F:List Lf} {s:Ps} {W:World} (h:Nk g fv F s W):g<W.heap.size:=by
  obtain⟨lv,h1,_⟩:=h.w
  exact h1.lt
theorem Nk.next {g:Nat} {fv:Value} {F:List Lf} {s:Ps} {W W':World} (h:Nk g fv F s W) (hb:Below W.heap.size W W'):Nk g fv F s W'∧Fn g W W':=by
  obtain⟨lv,h1,h2⟩:=h.w
  exact⟨⟨⟨lv,h1.below hb h1.lt,own_below h2 hb⟩,h.f.keep (hb.mono (Nat.le_of_lt h1.lt)) (Nat.le_refl _)⟩,.of hb (Nat.le_of_lt h1.lt)⟩
theorem fr_setn {g:Nat} {W:World} {cs:Array Value} (h:Bk W g 53 cs) (i:Nat) (v:Value):Fn g W (W.setCell ⟨g,i,none⟩ v):=
  ⟨bog (Below.refl _ _) (grown_set (grown_refl W (some g)) i v) (Nat.le_of_lt h.lt) (Nat.le_refl _),(KT.refl _ W).setCell h (by decide) i v⟩
theorem own_nk {g:Nat} {W:World} {cs:Array Value} {lv:Value} {n:Nat} {xs:List Value} (h:Bk W g 53 cs) (k:W.ownsRow g 32 4 lv n xs) (i:Nat) (v:Value):(W.setCell ⟨g,i,none⟩ v).ownsRow g 32 4 lv n xs:=
  own_far k (own_ne k h (by decide)) v
theorem rt_nk {g:Nat} {W:World} {cs:Array Value} {fv:Value} {n:Nat} {xs:List Value} (h:Bk W g 53 cs) (k:Rd W g 4 fv n xs) (i:Nat) (v:Value):Rd (W.setCell ⟨g,i,none⟩ v) g 4 fv n xs:=
  k.keep (fr_setn h i v).hb (Nat.le_refl _)
theorem Nk.setP {g:Nat} {fv:Value} {F:List Lf} {s:Ps} {W:World} (h:Nk g fv F s W) (p:Nat):Nk g fv F {s with p:=p} (W.setCell ⟨g,3,none⟩ (.int .i64 (p:Int)))∧Fn g W (W.setCell ⟨g,3,none⟩ (.int .i64 (p:Int))):=by
  obtain⟨lv,h1,h2⟩:=h.w
  exact⟨⟨⟨lv,h1.set 3 _,own_nk h1 h2 _ _⟩,rt_nk h1 h.f _ _⟩,fr_setn h1 _ _⟩
theorem Nk.setUp {g:Nat} {fv:Value} {F:List Lf} {s:Ps} {W:World} (h:Nk g fv F s W) (u:Int):Nk g fv F {s with up:=u} (W.setCell ⟨g,4,none⟩ (.int .i64 u))∧Fn g W (W.setCell ⟨g,4,none⟩ (.int .i64 u)):=by
  obtain⟨lv,h1,h2⟩:=h.w
  exact⟨⟨⟨lv,h1.set 4 _,own_nk h1 h2 _ _⟩,rt_nk h1 h.f _ _⟩,fr_setn h1 _ _⟩
theorem Nk.setDeep {g:Nat} {fv:Value} {F:List Lf} {s:Ps} {W:World} (h:Nk g fv F s W) (d:Nat):Nk g fv F {s with deep:=d} (W.setCell ⟨g,5,none⟩ (.int .i64 (d:Int)))∧Fn g W (W.setCell ⟨g,5,none⟩ (.int .i64 (d:Int))):=by
  obtain⟨lv,h1,h2⟩:=h.w
  exact⟨⟨⟨lv,h1.set 5 _,own_nk h1 h2 _ _⟩,rt_nk h1 h.f _ _⟩,fr_setn h1 _ _⟩
theorem Nk.setTo {g:Nat} {fv:Value} {F:List Lf} {s:Ps} {W:World} {ga c n:Nat} (h1:Bk W g 53 #[fv,.string ⟨(sgs F).toArray⟩,.slice (some ⟨ga,0,none⟩) n c,.int .i64 (s.p:Int),.int .i64 s.up,.int .i64 (s.deep:Int)])
    (h2:W.ownsRow g 32 4 (.slice (some ⟨ga,0,none⟩) n c) s.l.length (ndcs s.l)) (hf:Rd W g 4 fv F.length (lfcs F)) (i t:Nat) (hi:i<s.l.length) :
    Nk g fv F {s with l:=ndTo s.l i t} (W.setCell ⟨ga,i*4+2,none⟩ (.int .i64 (t:Int)))∧Fn g W (W.setCell ⟨ga,i*4+2,none⟩ (.int .i64 (t:Int))):=by
  have hne:ga≠g:=fun e=>own_ne h2 h1 (by decide) (by rw[e];rfl)
  obtain⟨e1,_,_,e4,e5⟩:=own_le h2
  subst e1
  have hh:=own_heap h2
  have hs:=own_set h2 (i*4+2) (.int .i64 (t:Int))
  rw[ndcs_to _ _ _ hi] at hs
  have hg:=grown_set (grown_refl W (some ga)) (i*4+2) (.int .i64 (t:Int))
  refine⟨⟨⟨_,h1.grown hg (fun e=>hne (by injection e with e;exact e.symm)),by show World.ownsRow _ _ _ _ _ (ndTo _ _ _).length _;rw[ndTo_len];exact hs⟩,hf.keep (bog (Below.refl _ _) hg (Nat.le_of_lt h1.lt) e4) (Nat.le_refl _)⟩,
    ⟨bog (Below.refl _ _) hg (Nat.le_of_lt h1.lt) e4,(KT.refl _ W).setCell hh (by decide) _ _⟩⟩
theorem Nk.push {g:Nat} {fv:Value} {F:List Lf} {s:Ps} {W W':World} {lv v':Value} {x:Nd} (h1:Bk W g 53 #[fv,.string ⟨(sgs F).toArray⟩,lv,.int .i64 (s.p:Int),.int .i64 s.up,.int .i64 (s.deep:Int)])
    (h2:W.ownsRow g 32 4 lv s.l.length (ndcs s.l)) (hf:Rd W g 4 fv F.length (lfcs F)) (ho:W'.ownsRow g 32 4 v' (s.l.length+1) (ndcs s.l++ndcs [x])) (hg:W.grownBy W' lv.ownBlock) :
    Nk g fv F {s with l:=s.l++[x]} (W'.setCell ⟨g,2,none⟩ v')∧Fn g W (W'.setCell ⟨g,2,none⟩ v'):=by
  have k1:Bk W' g 53 _:=h1.grown hg (fun e=>own_ne h2 h1 (by decide) e.symm)
  have kfr:Fn g W W':=⟨Below.grown (Below.refl _ _) hg (Nat.le_of_lt h1.lt) (fun k hk=>(h2.lt k hk).1),(KT.refl _ W).grown hg (fun k hk=>by obtain⟨cs,t,fr,e1,e2⟩:=own_blk h2 k hk;exact⟨cs,t,fr,e1,by rw[e2];decide⟩)⟩
  have kf:Rd W' g 4 fv F.length (lfcs F):=hf.keep kfr.hb (Nat.le_refl _)
  rw[←ndcs_app] at ho
  refine⟨⟨⟨v',k1.set 2 v',?_⟩,rt_nk k1 kf _ _⟩,kfr.trans (fr_setn k1 _ _)⟩
  show World.ownsRow _ _ _ _ _ (s.l++[x]).length _
  rw[List.length_append]
  exact own_nk k1 ho _ _
theorem Bk.sixn {w:World} {g:Nat} {t:TypeId} {x0 x1 x2 x3 x4 x5:Value} (h:Bk w g t #[x0,x1,x2,x3,x4,x5]):w.cell? ⟨g,0,none⟩=some x0∧w.cell? ⟨g,1,none⟩=some x1∧w.cell? ⟨g,2,none⟩=some x2∧w.cell? ⟨g,3,none⟩=some x3∧w.cell? ⟨g,4,none⟩=some x4∧w.cell? ⟨g,5,none⟩=some x5:=
  ⟨h.cell 0,h.cell 1,h.cell 2,h.cell 3,h.cell 4,h.cell 5⟩
theorem sgs_at {F:List Lf} {p:Nat} (h:p<F.length):(sgs F)[p]? = some (sg F p):=by
  unfold sgs sg
  rw[List.getElem?_map,List.getElem?_eq_getElem h]
  rfl
theorem sgs_len (F:List Lf):(sgs F).length=F.length:=by unfold sgs;rw[List.length_map]
end Go.Proofs.YtokmnkmpdnlnaaaGreatDoor
namespace Go.Proofs.YtokmnkmpdnlnaaaGreatDoor
open Go.RowKit
set_option linter.unusedVariables false
set_option linter.unusedSimpArgs false
set_option maxRecDepth 100000
structure Ny (g:Nat) (fv:Value) (F:List Lf) (W:World) (t:Ps) (w':World):Prop where
  m:Nk g fv F t w'
  f:Fn g W w'
theorem Ny.of {g:Nat} {fv:Value} {F:List Lf} {W W1 w':World} {t:Ps} (h:Nk g fv F t W1∧Fn g w' W1):Ny g fv F w' t W1:=⟨h.1,h.2⟩
theorem Ny.start {g:Nat} {fv:Value} {F:List Lf} {s:Ps} {W:World} (h:Nk g fv F s W):Ny g fv F W s W:=⟨h,Fn.refl _ _⟩
theorem Ny.next {g:Nat} {fv:Value} {F:List Lf} {s:Ps} {W W1 w':World} (h:Ny g fv F W s W1) (hb:Below W1.heap.size W1 w'):Ny g fv F W s w':=⟨(h.m.next hb).1,h.f.trans (h.m.next hb).2⟩
theorem Ny.then {g:Nat} {fv:Value} {F:List Lf} {s t:Ps} {W W1 w':World} (h:Ny g fv F W s W1) (k:Ny g fv F W1 t w'):Ny g fv F W t w':=⟨k.m,h.f.trans k.f⟩
theorem Ny.drew {g:Nat} {fv:Value} {F:List Lf} {s:Ps} {W W1:World} (h:Ny g fv F W s W1) (n:Nat):Ny g fv F W s (W1.drewN n):=h.next (below_drewN' (Below.refl _ _) n)
theorem Ny.setP {g:Nat} {fv:Value} {F:List Lf} {s:Ps} {W W1:World} (h:Ny g fv F W s W1) (p:Nat):Ny g fv F W {s with p:=p} (W1.setCell ⟨g,3,none⟩ (.int .i64 (p:Int))):=⟨(h.m.setP p).1,h.f.trans (h.m.setP p).2⟩
theorem Ny.setUp {g:Nat} {fv:Value} {F:List Lf} {s:Ps} {W W1:World} (h:Ny g fv F W s W1) (u:Int):Ny g fv F W {s with up:=u} (W1.setCell ⟨g,4,none⟩ (.int .i64 u)):=⟨(h.m.setUp u).1,h.f.trans (h.m.setUp u).2⟩
theorem Ny.setDeep {g:Nat} {fv:Value} {F:List Lf} {s:Ps} {W W1:World} (h:Ny g fv F W s W1) (d:Nat):Ny g fv F W {s with deep:=d} (W1.setCell ⟨g,5,none⟩ (.int .i64 (d:Int))):=⟨(h.m.setDeep d).1,h.f.trans (h.m.setDeep d).2⟩
theorem Nk.cells {g:Nat} {fv:Value} {F:List Lf} {s:Ps} {W:World} (h:Nk g fv F s W):(W.cell? ⟨g,0,none⟩=some fv∧W.cell? ⟨g,1,none⟩=some (.string ⟨(sgs F).toArray⟩)∧W.cell? ⟨g,3,none⟩=some (.int .i64 (s.p:Int))∧W.cell? ⟨g,4,none⟩=some (.int .i64 s.up)∧W.cell? ⟨g,5,none⟩=some (.int .i64 (s.deep:Int))) ∧
    W.frozen? ⟨g,2,none⟩=false∧W.frozen? ⟨g,3,none⟩=false∧W.frozen? ⟨g,4,none⟩=false∧W.frozen? ⟨g,5,none⟩=false:=by
  obtain⟨lv,hb,_⟩:=h.w
  obtain⟨c0,c1,_,c3,c4,c5⟩:=hb.sixn
  exact⟨⟨c0,c1,c3,c4,c5⟩,hb.frozen _,hb.frozen _,hb.frozen _,hb.frozen _⟩
theorem inL_has (c:UInt8) (cs:List UInt8):inL c cs=cs.contains c:=by
  unfold inL
  induction cs with
  | nil=>rfl
  | cons d cs ih=>
    rw[List.any_cons,List.contains_cons,ih]
    congr 1
    by_cases h:c=d
    ·subst h;simp
    ·rw[beq_false_of_ne h]
     exact decide_eq_false (fun e=>h (UInt8.toNat_inj.1 e.symm))
set_option maxHeartbeats 1000000 in
theorem next_r {g:Nat} {fv:Value} {F:List Lf} {s:Ps} {W:World} (hF:FB F) (h:Nk g fv F s W) (hs:s.p≤F.length) (cs:List UInt8) (hcs:cs.contains 0=false) (hcl:cs.length≤1000) :
    Calls Tryz.prog 31 #[.pointer (some ⟨g,0,none⟩),.string ⟨cs.toArray⟩] W fun e w'=>e=.returned (.bool (comes F cs s))∧∃n,w'=W.drewN n:=by
  obtain⟨⟨c0,c1,c3,c4,c5⟩,_⟩:=h.cells
  have hn:=hF.n
  have hsl:=sgs_len F
  have u0:(0:Int)≤(s.p:Int):=by omega
  by_cases hp:s.p<F.length
  ·obtain⟨c,hc⟩:∃c,c=sg F s.p:=⟨_,rfl⟩
   obtain⟨b,hb⟩:∃b,b=comes F cs s:=⟨_,rfl⟩
   have hd:=sgs_at hp
   rw[←hc] at hd
   have c2:∀W1,Calls Tryz.prog 52 #[.int .u8 (c.toNat:Int),.string ⟨cs.toArray⟩] W1 fun e w'=>e=.returned (.bool b)∧W1=w':=fun W1=>by
     rw[hb]
     unfold comes
     rw[←hc,←inL_has]
     exact in_c c cs W1 (by omega)
   rw[←hb]
   obtain⟨T,hT⟩:∃T,T=sgs F:=⟨_,rfl⟩
   rw[←hT] at c1 hd hsl
   obtain⟨g1,g2⟩:=List.getElem?_eq_some_iff.1 hd
   have g3:(ByteArray.mk T.toArray)[s.p]'(show s.p<T.length from g1)=c:=g2
   have t1:(s.p:Int)<(T.length:Int):=by omega
   have t2:decide ((s.p:Int)<(T.length:Int))=true:=decide_eq_true t1
   have t3:decide (s.p<T.length)=true:=decide_eq_true g1
   have HC:=Lib.hid c2
   clear c2 hc hb g2 hd hT h c0 c4 c5
   go_enter Tryz.func31,Tryz.ntmps31
   go_wp2
   go_quiet (first
     | (go_at_call 52
        refine(HC.out _).mono ?_
        rintro e w' ⟨rfl,rfl⟩
        exact⟨rfl,_,rfl⟩))
   go_wp2
   go_ret
   exact⟨rfl,_,rfl⟩
  ·have h0:comes F cs s=false:=by unfold comes sg;rw[List.getElem?_eq_none (by omega)];exact hcs
   rw[h0]
   obtain⟨T,hT⟩:∃T,T=sgs F:=⟨_,rfl⟩
   rw[←hT] at c1 hsl
   have t2:decide ((s.p:Int)<(T.length:Int))=false:=decide_eq_false (by omega)
   have t3:decide (s.p<T.length)=false:=decide_eq_false (by omega)
   clear hT h c0 c4 c5
   go_enter Tryz.func31,Tryz.ntmps31
   go_wp2
   go_quiet (fail)
   go_wp2
   go_ret
   exact⟨rfl,_,rfl⟩
end Go.Proofs.YtokmnkmpdnlnaaaGreatDoor
namespace Go.Proofs.YtokmnkmpdnlnaaaGreatDoor
open Go.RowKit
set_option linter.unusedVariables false
set_option linter.unusedSimpArgs false
set_option maxRecDepth 100000
def nestB (k:Nat):Bool:=decide (9≤k)&&decide (k≤14)||k==16
def inD (k:Nat) (s:Ps):Ps:=if nestB k=true then {inN k s with deep:=s.deep+1} else inN k s
set_option maxHeartbeats 1000000 in
theorem nests_r (k:Nat) (W:World):Calls Tryz.prog 51 #[.int .i64 (k:Int)] W fun e w'=>e=.returned (.bool (nestB k))∧w'=W:=by
  obtain⟨z,hz⟩:∃z:Int,z=(k:Int):=⟨_,rfl⟩
  rw[←hz]
  have key:(k<9∨(9≤k∧k≤14))∨k=16∨(14<k∧k≠16):=by omega
  rcases key with (h|⟨h1,h2⟩)|h|⟨h1,h2⟩
  case' inl.inl=>
    have e:nestB k=false:=by unfold nestB;rw[decide_eq_false (by omega),beq_false_of_ne (by omega)];rfl
    have t1:decide (9≤z)=false:=decide_eq_false (by omega)
    have t3:(z==16)=false:=beq_false_of_ne (by omega)
  case' inl.inr=>
    have e:nestB k=true:=by unfold nestB;rw[decide_eq_true h1,decide_eq_true h2];rfl
    have t1:decide (9≤z)=true:=decide_eq_true (by omega)
    have t2:decide (z≤14)=true:=decide_eq_true (by omega)
  case' inr.inl=>
    have e:nestB k=true:=by subst h;rfl
    have t1:decide (9≤z)=true:=decide_eq_true (by omega)
    have t2:decide (z≤14)=false:=decide_eq_false (by omega)
    have t3:(z==16)=true:=by rw[hz,h];rfl
  case' inr.inr=>
    have e:nestB k=false:=by unfold nestB;rw[decide_eq_false (p:=k≤14) (by omega),beq_false_of_ne h2,Bool.and_false];rfl
    have t1:decide (9≤z)=true:=decide_eq_true (by omega)
    have t2:decide (z≤14)=false:=decide_eq_false (by omega)
    have t3:(z==16)=false:=beq_false_of_ne (by omega)
  all_goals (
    rw[e]
    clear e hz
    go_enter Tryz.func51,Tryz.ntmps51
    go_wp2
    go_ret
    exact⟨rfl,rfl⟩)
set_option maxHeartbeats 4000000 in
theorem begin_r {g:Nat} {fv:Value} {F:List Lf} {s:Ps} {W:World} (k:Nat) (h:Nk g fv F s W) (hl:s.l.length≤50000) (hk:k≤18) (hd:s.deep≤1000) :
    Calls Tryz.prog 30 #[.pointer (some ⟨g,0,none⟩),.int .i64 (k:Int)] W fun e w'=>e=.returned (.int .i64 s.up)∧Ny g fv F W (inD k s) w':=by
  obtain⟨i0,hi0,hz0,hz1,hz2⟩:=info_parts Tryz.infoNode
  obtain⟨lv,hb,ho⟩:=h.w
  obtain⟨A,n,c,rfl⟩:=own_form' ho
  obtain rfl:=own_len ho
  obtain⟨c0,c1,c2,c3,c4,c5⟩:=hb.sixn
  have f2:=hb.frozen 2
  have hne:(Value.slice A s.l.length c).ownBlock≠some g:=own_ne ho hb (by decide)
  have g1:=hb.lt
  have H2:=Lib.hid (And.intro hb (And.intro ho h.f))
  have HN:=Lib.hid (nests_r k)
  clear h hb ho
  go_enter Tryz.func30,Tryz.ntmps30
  go_wp2
  go_region_law (first
    | (refine step_append_rd rfl (.tmp 14) (.tmp 22) 26 rfl g 32 i0 _ 4 32 Tryz.underlying26 hi0 hz0 hz1 hz2 rfl (by decide) (.slice A s.l.length c) s.l.length (ndcs s.l) (by simp[Act.eval]) (H2.out.2.1.alloc _) (.slice (some ⟨W.heap.size,0,none⟩) 1 1) 1 (W.heap.size+1) (ndcs [⟨k,s.p,0,s.up⟩]) (by simp[Act.eval]) (Rd.drew (rd_new W (ndcs [⟨k,s.p,0,s.up⟩]) 32 4 1 rfl (by omega))) (one_nd _) (by unfold maxLen;omega) (by omega) (by simp;omega) ?_
       intro v1 w1 hown1 hg1 hv1
       obtain⟨gn,cn,rfl⟩:=own_some hown1
       have kk:=(H2.out.1.alloc (.cells #[.int .i64 (k:Int),.int .i64 (s.p:Int),.int .i64 0,.int .i64 s.up] 32)).drew.grown hg1 (fun e=>hne e.symm)
       have y0:=kk.cell 2
       have y1:=kk.frozen 2
       have H3:=Lib.hid (And.intro hown1 hg1)
       clear hown1 hg1 hv1 kk))
  all_goals (
    have hbA:Below W.heap.size W (W.alloc (.cells #[.int .i64 (k:Int),.int .i64 (s.p:Int),.int .i64 0,.int .i64 s.up] 32)).drew:=((Below.refl _ W).alloc (Nat.le_refl _) _).drew
    have hp:=Nk.push (x:=⟨k,s.p,0,s.up⟩) (H2.out.1.below hbA g1) (own_below H2.out.2.1 hbA) (H2.out.2.2.keep (hbA.mono (Nat.le_of_lt g1)) (Nat.le_refl _)) H3.out.1 H3.out.2
    have H4:=Lib.hid (Ny.mk (W:=W) hp.1 (((Ny.start (Nk.mk ⟨_,H2.out.1,H2.out.2.1⟩ H2.out.2.2)).next hbA).f.trans hp.2))
    clear y0 y1 hp hbA H3 c0 c1 c2 c3 c4 c5 f2
    generalize w1.setCell {block:=g,off:=2} (Value.slice (some {block:=gn,off:=0}) (s.l.length+1) cn)=W3 at *
    obtain⟨lv2,kb,ko⟩:=H4.out.m.w
    obtain⟨A2,n2,c2,rfl⟩:=own_form' ko
    have hn2:=own_len ko
    replace hn2:n2=s.l.length+1:=by rw[hn2];show (s.l++[_]).length=_;rw[List.length_append];rfl
    subst hn2
    obtain⟨d0,d1,d2,d3,d4,d5⟩:=kb.sixn
    have e4:=kb.frozen 4
    have e5:=kb.frozen 5
    clear kb ko
    have v1:IntKind.i64.wrap (((s.l.length+1:Nat):Int)-1)=(s.l.length:Int):=by rw[IntWalk.i64_in _ (by omega)];omega
    have v2:IntKind.i64.wrap ((s.deep:Int)+1)=((s.deep+1:Nat):Int):=by rw[IntWalk.i64_in _ (by omega)];omega)
  all_goals (
    have H5:=Lib.hid (H4.out.setUp (s.l.length:Int))
    cases hb:nestB k)
  all_goals (
    have HB:=Lib.hid (And.intro hb (fun W=>hb▸HN.out W))
    clear hb)
  all_goals (
    replace d4:W3.cell? ⟨g,4,none⟩=some (.int .i64 s.up):=d4
    replace d5:W3.cell? ⟨g,5,none⟩=some (.int .i64 (s.deep:Int)):=d5
    have v3:(s.l.length:Int)+1-1=(s.l.length:Int):=by omega
    have hg3:=(H4.out.m).lt
    go_wp2_with (
      (go_at_call 51
       with_reducible refine(HB.out.2 _).mono ?_
       rintro e w5 ⟨rfl,rfl⟩))
    go_ret
    refine⟨rfl,?_⟩
    unfold inD
    rw[HB.out.1]
    first
      | exact H5.out
      | exact H5.out.setDeep (s.deep+1))
end Go.Proofs.YtokmnkmpdnlnaaaGreatDoor
namespace Go.Proofs.YtokmnkmpdnlnaaaGreatDoor
open Go.RowKit
set_option linter.unusedVariables false
set_option linter.unusedSimpArgs false
set_option maxRecDepth 100000
theorem ndTo_get:∀(l:List Nd) (i t:Nat) (x:Nd),l[i]? = some x→(ndTo l i t)[i]? = some {x with tt:=t}
  | [],i,t,x,h=>by simp at h
  | n::r,0,t,x,h=>by
    have e:n=x:=by simpa using h
    subst e
    rfl
  | n::r,i+1,t,x,h=>ndTo_get r i t x (by simpa using h)
def endP (k i:Nat) (u:Int) (t:Ps):Ps:={t with l:=ndTo t.l i t.p,up:=u,deep:=if nestB k=true then t.deep-1 else t.deep}
set_option maxHeartbeats 4000000 in
theorem end_r {g:Nat} {fv:Value} {F:List Lf} {t:Ps} {W:World} (i:Nat) (u:Int) (x:Nd) (h:Nk g fv F t W) (hup:t.up=(i:Int)) (hx:t.l[i]? = some x) (hl:t.l.length≤100000) (hd1:nestB x.kd=true→1≤t.deep) (hd:t.deep≤1000) :
    Calls Tryz.prog 35 #[.pointer (some ⟨g,0,none⟩),.int .i64 u] W fun e w'=>e=.returned (.tuple #[])∧Ny g fv F W (endP x.kd i u t) w':=by
  have hi:i<t.l.length:=(List.getElem?_eq_some_iff.1 hx).1
  obtain⟨m,hm⟩:∃m,t.l.length=m+1:=⟨t.l.length-1,by omega⟩
  obtain⟨lv,kb,ko⟩:=h.w
  have kr:=h.f
  obtain⟨ga,ca,rfl⟩:∃ga ca,lv=.slice (some ⟨ga,0,none⟩) t.l.length ca:=by
    rw[hm] at ko
    obtain⟨ga,ca,e⟩:=own_some ko
    exact⟨ga,ca,by rw[hm];exact e⟩
  have hT:=Nk.setTo kb ko kr i t.p hi
  obtain⟨d0,d1,d2,d3,d4,d5⟩:=kb.sixn
  rw[hup] at d4
  have x1:=own_frozen ko (i*4+2)
  obtain⟨v0,hv0⟩:∃v0,(ndcs t.l)[i*4+2]? = some v0:=⟨_,List.getElem?_eq_getElem (by rw[ndcs_len];omega)⟩
  have x2:=own_cell ko _ _ hv0
  have u1:(i:Int)<(t.l.length:Int):=by omega
  have u2:(0:Int)≤(i:Int):=by omega
  have HT:=Lib.hid (And.intro hT h)
  have HN:=Lib.hid (nests_r x.kd)
  have HX:=Lib.hid (And.intro (ndTo_get t.l i t.p x hx) (And.intro hd1 (And.intro hup hm)))
  clear hm kb ko kr hv0 hT h hx hd1 hup
  go_enter Tryz.func35,Tryz.ntmps35
  go_wp2
  go_region
  all_goals (
    have H4:=Lib.hid ((Ny.mk (W:=W) HT.out.1.1 HT.out.1.2).next (Below.refl _ _).drew)
    clear d0 d1 d2 d3 d4 d5 x1 x2
    generalize (W.setCell {block:=ga,off:=i*4+2} (Value.int IntKind.i64 (t.p:Int))).drew=W3 at *
    obtain⟨lv2,kb,ko⟩:=H4.out.m.w
    obtain⟨A2,n2,c2,rfl⟩:=own_form' ko
    have hn2:=own_len ko
    replace hn2:n2=(ndTo t.l i t.p).length:=hn2
    subst hn2
    obtain⟨g2,o2,rfl,_,hc⟩:=rd_sat ndc_len (Rd.of_own ko) HX.out.1 rfl
    obtain⟨d0,d1,d2,d3,d4,d5⟩:=kb.sixn
    rw[ndTo_len] at d2
    replace d4:W3.cell? ⟨g,4,none⟩=some (.int .i64 (i:Int)):=by rw[←HX.out.2.2.1];exact d4
    replace d5:W3.cell? ⟨g,5,none⟩=some (.int .i64 (t.deep:Int)):=d5
    have z0:W3.cell? ⟨g2,o2+i*4,none⟩=some (.int .i64 (x.kd:Int)):=hc 0 _ rfl
    have e4:=kb.frozen 4
    have e5:=kb.frozen 5
    have hg3:=kb.lt
    clear kb ko hc
    cases hb:nestB x.kd)
  case' false=>
    have HB:=Lib.hid (And.intro hb (fun W=>hb▸HN.out W))
    clear hb
    have H5:=Lib.hid ((H4.out.drew 0).setUp u)
  case' true=>
    have h1:=HX.out.2.1 hb
    have v2:IntKind.i64.wrap ((t.deep:Int)-1)=((t.deep-1:Nat):Int):=by rw[IntWalk.i64_in _ (by omega)];omega
    have HB:=Lib.hid (And.intro hb (fun W=>hb▸HN.out W))
    clear hb
  all_goals (
    go_wp2
    go_quiet (first
      | (go_at_call 51
         refine(HB.out.2 _).mono ?_
         rintro e w' ⟨rfl,rfl⟩
         exact⟨rfl,_,rfl⟩))
    go_wp2
    first|go_end0|refine bodyPost_ret (results_none rfl _ _ _) rfl ?_
    refine⟨rfl,?_⟩
    unfold endP
    rw[HB.out.1]
    first
      | exact(H4.out.drew nq).setUp u
      | exact((H4.out.drew nq).setDeep (t.deep-1)).setUp u
      | trace_state)
end Go.Proofs.YtokmnkmpdnlnaaaGreatDoor
namespace Go.Proofs.YtokmnkmpdnlnaaaGreatDoor
open Go.RowKit
set_option linter.unusedVariables false
set_option linter.unusedSimpArgs false
set_option maxRecDepth 100000
theorem inD_n {k:Nat} (hk:nestB k=false) (s:Ps):inD k s=inN k s:=by unfold inD;rw[hk];rfl
theorem inD_x {k:Nat} (hk:nestB k=true) (s:Ps):inD k s=inN k {s with deep:=s.deep+1}:=by unfold inD;rw[hk];rfl
theorem endP_n {k:Nat} (hk:nestB k=false) (f:Ps→Ps) (s:Ps):endP k s.l.length s.up (f (inN k s))=nodeP k f s:=by unfold endP;rw[hk];rfl
theorem endP_x {k:Nat} (hk:nestB k=true) (f:Ps→Ps) (s:Ps):endP k s.l.length s.up (f (inN k {s with deep:=s.deep+1}))=nestP k f s:=by unfold endP;rw[hk];rfl
theorem begin_n {g:Nat} {fv:Value} {F:List Lf} {s:Ps} {W:World} (k:Nat) (hn:nestB k=false) (h:Nk g fv F s W) (hl:s.l.length≤50000) (hk:k≤18) (hd:s.deep≤1000) :
    Calls Tryz.prog 30 #[.pointer (some ⟨g,0,none⟩),.int .i64 (k:Int)] W fun e w'=>e=.returned (.int .i64 s.up)∧Ny g fv F W (inN k s) w':=by
  rw[←inD_n hn]
  exact begin_r k h hl hk hd
theorem begin_x {g:Nat} {fv:Value} {F:List Lf} {s:Ps} {W:World} (k:Nat) (hn:nestB k=true) (h:Nk g fv F s W) (hl:s.l.length≤50000) (hk:k≤18) (hd:s.deep≤1000) :
    Calls Tryz.prog 30 #[.pointer (some ⟨g,0,none⟩),.int .i64 (k:Int)] W fun e w'=>e=.returned (.int .i64 s.up)∧Ny g fv F W (inN k {s with deep:=s.deep+1}) w':=by
  rw[←inD_x hn]
  exact begin_r k h hl hk hd
theorem gd_at {N B k:Nat} {s t:Ps} (h:Gd N B (inN k s) t):t.up=(s.l.length:Int)∧t.l[s.l.length]? = some ⟨k,s.p,0,s.up⟩∧t.deep=s.deep:=by
  refine⟨h.up,?_,h.dp⟩
  obtain⟨m,h1,_⟩:=h.f
  rw[h1]
  show ((s.l++[_])++m)[s.l.length]? = _
  rw[List.append_assoc,List.getElem?_append_right (Nat.le_refl _),Nat.sub_self]
  rfl
theorem end_n {g N B:Nat} {fv:Value} {F:List Lf} {s:Ps} {W:World} (k:Nat) (f:Ps→Ps) (hn:nestB k=false) (hG:Gd N B (inN k s) (f (inN k s))) (h:Nk g fv F (f (inN k s)) W) (hl:(f (inN k s)).l.length≤100000) (hd:s.deep≤1000) :
    Calls Tryz.prog 35 #[.pointer (some ⟨g,0,none⟩),.int .i64 s.up] W fun e w'=>e=.returned (.tuple #[])∧Ny g fv F W (nodeP k f s) w':=by
  obtain⟨h1,h2,h3⟩:=gd_at hG
  rw[←endP_n hn]
  exact end_r s.l.length s.up _ h h1 h2 hl (fun e=>by rw[show nestB k=true from e] at hn;cases hn) (by omega)
theorem end_x {g N B:Nat} {fv:Value} {F:List Lf} {s:Ps} {W:World} (k:Nat) (f:Ps→Ps) (hn:nestB k=true) (hG:Gd N B (inN k {s with deep:=s.deep+1}) (f (inN k {s with deep:=s.deep+1}))) (h:Nk g fv F (f (inN k {s with deep:=s.deep+1})) W) (hl:(f (inN k {s with deep:=s.deep+1})).l.length≤100000) (hd:s.deep≤900) :
    Calls Tryz.prog 35 #[.pointer (some ⟨g,0,none⟩),.int .i64 s.up] W fun e w'=>e=.returned (.tuple #[])∧Ny g fv F W (nestP k f s) w':=by
  obtain⟨h1,h2,h3⟩:=gd_at hG
  rw[←endP_x hn]
  exact end_r s.l.length s.up _ h h1 h2 hl (fun _=>by rw[h3];exact Nat.le_add_left 1 _) (by rw[h3];show s.deep+1≤1000;omega)
theorem gd_inn {F:List Lf} {k:Nat} {s:Ps} (hs:s.p≤F.length):Gd F.length 0 (inN k s) (inN k s):=Gd.refl hs
set_option maxHeartbeats 1000000 in
theorem none_r {g:Nat} {fv:Value} {F:List Lf} {s:Ps} {W:World} (hF:FB F) (h:Nk g fv F s W) (hB:Bd F 100 s) :
    Calls Tryz.prog 71 #[.pointer (some ⟨g,0,none⟩)] W fun e w'=>e=.returned (.tuple #[])∧Ny g fv F W (missP s) w':=by
  have hn:=hF.n
  have hl:=hB.l5 hF (by omega)
  have hd:=hB.d
  have c1:=begin_n 18 (by decide) h hl (by omega) (by omega)
  have c2:∀W1,Nk g fv F (inN 18 s) W1→_:=fun W1 h1=>end_n 18 id (by decide) (gd_inn (k:=18) hB.p) h1 (by show (s.l++[_]).length≤100000;rw[List.length_append];simp;omega) (by omega)
  have HC:=Lib.hid (And.intro c1 c2)
  clear c1 c2 h
  go_enter Tryz.func71,Tryz.ntmps71
  go_wp2_with (first
    | (go_at_call 30
       refine HC.out.1.mono ?_
       rintro e w1 ⟨rfl,hz⟩
       have H1:=Lib.hid hz
       clear hz)
    | (go_at_call 35
       refine(HC.out.2 _ H1.out.m).mono ?_
       rintro e w2 ⟨rfl,hz⟩
       have H2:=Lib.hid (H1.out.then hz)
       clear hz)
    | fail)
  first|go_end0|refine bodyPost_ret (results_none rfl _ _ _) rfl ?_
  exact⟨rfl,H2.out⟩
set_option maxHeartbeats 1000000 in
theorem one_r {g:Nat} {fv:Value} {F:List Lf} {s:Ps} {W:World} (k:Nat) (hk:1≤k∧k≤17) (hnb:nestB k=false) (hF:FB F) (h:Nk g fv F s W) (hB:Bd F 100 s) (hs:s.p<F.length) :
    Calls Tryz.prog 34 #[.pointer (some ⟨g,0,none⟩),.int .i64 (k:Int)] W fun e w'=>e=.returned (.tuple #[])∧Ny g fv F W (leafP k s) w':=by
  have hn:=hF.n
  have hl:=hB.l5 hF (by omega)
  have hd:=hB.d
  have hG:Gd F.length 0 (inN k s) (nextP (inN k s)):=⟨Nat.le_succ _,hs,Nat.le_refl _,by show _≤_+16*(s.p+1)+0;show (inN k s).l.length+16*s.p≤_;omega,rfl,rfl,[],by simp[nextP],.nil (Nat.le_succ _)⟩
  have c1:=begin_n k hnb h hl (by omega) (by omega)
  have c2:∀W1,Nk g fv F (nextP (inN k s)) W1→_:=fun W1 h1=>end_n k nextP hnb hG h1 (by show (s.l++[_]).length≤100000;rw[List.length_append];simp;omega) (by omega)
  have v1:IntKind.i64.wrap ((s.p:Int)+1)=((s.p+1:Nat):Int):=by rw[IntWalk.i64_in _ (by omega)];omega
  have HC:=Lib.hid (And.intro c1 c2)
  clear c1 c2 h hG
  go_enter Tryz.func34,Tryz.ntmps34
  go_wp2_with (first
    | (go_at_call 30
       refine HC.out.1.mono ?_
       rintro e w1 ⟨rfl,hz⟩
       have hg1:=hz.m.lt
       obtain⟨⟨d0,d1,d3,d4,d5⟩,e2,e3,e4,e5⟩:=hz.m.cells
       replace d3:w1.cell? ⟨g,3,none⟩=some (.int .i64 (s.p:Int)):=d3
       have H1:=Lib.hid (hz.setP (s.p+1))
       clear hz)
    | (go_at_call 35
       refine(HC.out.2 _ H1.out.m).mono ?_
       rintro e w2 ⟨rfl,hz⟩
       have H2:=Lib.hid (H1.out.then hz)
       clear hz)
    | fail)
  first|go_end0|refine bodyPost_ret (results_none rfl _ _ _) rfl ?_
  exact⟨rfl,H2.out⟩
end Go.Proofs.YtokmnkmpdnlnaaaGreatDoor
