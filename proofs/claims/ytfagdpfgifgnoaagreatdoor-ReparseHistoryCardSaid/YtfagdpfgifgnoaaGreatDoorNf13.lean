/- The reference's parser in memory: the box of a Now, the leaves that it reads and the nodes that it has made. PRINTED by gen_nk13.py out of XMk13. -/
import Derived.Test.YtfagdpfgifgnoaaGreatDoorMb13
import Derived.Test.YtfagdpfgifgnoaaGreatDoorLa9
import Derived.Test.YtfagdpfgifgnoaaGreatDoorMem
import Derived.Test.YtfagdpfgifgnoaaGreatDoorHr9
import Derived.Test.YtfagdpfgifgnoaaGreatDoorCls
import Derived.Test.YtfagdpfgifgnoaaGreatDoorPm13
set_option linter.unusedVariables false
set_option linter.unusedSimpArgs false
set_option maxRecDepth 100000
set_option maxHeartbeats 8000000
namespace Go.Proofs.YtfagdpfgifgnoaaGreatDoor
section
open Go.RowKit
def FQ (F:List Lf):List UInt8:=F.map sV
structure Fn (g:Nat) (W W':World):Prop where
  hb:Below g W W'
  kt:KT [72,49] W W'
theorem Fn.refl (g:Nat) (W:World):Fn g W W:=⟨Below.refl _ _,KT.refl _ _⟩
theorem Fn.trans {g:Nat} {a b c:World} (h:Fn g a b) (k:Fn g b c):Fn g a c:=⟨h.hb.trans k.hb,h.kt.trans k.kt⟩
theorem Fn.of {g:Nat} {W W':World} (hb:Below W.heap.size W W') (hg:g≤W.heap.size):Fn g W W':=⟨hb.mono hg,KT.of_below hb⟩
structure Nk (g:Nat) (fv:Value) (F:List Lf) (s:Ps) (W:World):Prop where
  w:∃lv,Bk W g 72 #[fv,.string ⟨(FQ F).toArray⟩,lv,.int .i64 (s.p:Int),.int .i64 s.up,.int .i64 (s.deep:Int)]∧W.ownsRow g 49 4 lv s.l.length (dt s.l)
  f:Rd W g 4 fv F.length (fh F)
theorem Nk.lt {g:Nat} {fv:Value} {F:List Lf} {s:Ps} {W:World} (h:Nk g fv F s W):g<W.heap.size:=by
  obtain⟨lv,h1,_⟩:=h.w;exact h1.lt
theorem Nk.next {g:Nat} {fv:Value} {F:List Lf} {s:Ps} {W W':World} (h:Nk g fv F s W) (hb:Below W.heap.size W W'):Nk g fv F s W'∧Fn g W W':=by
  obtain⟨lv,h1,h2⟩:=h.w;exact⟨⟨⟨lv,h1.below hb h1.lt,aN h2 hb⟩,h.f.keep (hb.mono (Nat.le_of_lt h1.lt)) (Nat.le_refl _)⟩,.of hb (Nat.le_of_lt h1.lt)⟩
theorem kU {g:Nat} {W:World} {cs:Array Value} (h:Bk W g 72 cs) (i:Nat) (v:Value):Fn g W (W.setCell ⟨g,i,none⟩ v):=
  ⟨EB (Below.refl _ _) (aK (bT W (some g)) i v) (Nat.le_of_lt h.lt) (Nat.le_refl _),(KT.refl _ W).setCell h (by decide) i v⟩
theorem pR {g:Nat} {W:World} {cs:Array Value} {lv:Value} {n:Nat} {xs:List Value} (h:Bk W g 72 cs) (k:W.ownsRow g 49 4 lv n xs) (i:Nat) (v:Value):(W.setCell ⟨g,i,none⟩ v).ownsRow g 49 4 lv n xs:=
  aT k (aL k h (by decide)) v
theorem uz {g:Nat} {W:World} {cs:Array Value} {fv:Value} {n:Nat} {xs:List Value} (h:Bk W g 72 cs) (k:Rd W g 4 fv n xs) (i:Nat) (v:Value):Rd (W.setCell ⟨g,i,none⟩ v) g 4 fv n xs:=
  k.keep (kU h i v).hb (Nat.le_refl _)
theorem Nk.setP {g:Nat} {fv:Value} {F:List Lf} {s:Ps} {W:World} (h:Nk g fv F s W) (p:Nat):Nk g fv F {s with p:=p} (W.setCell ⟨g,3,none⟩ (.int .i64 (p:Int)))∧Fn g W (W.setCell ⟨g,3,none⟩ (.int .i64 (p:Int))):=by
  obtain⟨lv,h1,h2⟩:=h.w;exact⟨⟨⟨lv,h1.set 3 _,pR h1 h2 _ _⟩,uz h1 h.f _ _⟩,kU h1 _ _⟩
theorem Nk.setUp {g:Nat} {fv:Value} {F:List Lf} {s:Ps} {W:World} (h:Nk g fv F s W) (u:Int):Nk g fv F {s with up:=u} (W.setCell ⟨g,4,none⟩ (.int .i64 u))∧Fn g W (W.setCell ⟨g,4,none⟩ (.int .i64 u)):=by
  obtain⟨lv,h1,h2⟩:=h.w;exact⟨⟨⟨lv,h1.set 4 _,pR h1 h2 _ _⟩,uz h1 h.f _ _⟩,kU h1 _ _⟩
theorem Nk.setDeep {g:Nat} {fv:Value} {F:List Lf} {s:Ps} {W:World} (h:Nk g fv F s W) (d:Nat):Nk g fv F {s with deep:=d} (W.setCell ⟨g,5,none⟩ (.int .i64 (d:Int)))∧Fn g W (W.setCell ⟨g,5,none⟩ (.int .i64 (d:Int))):=by
  obtain⟨lv,h1,h2⟩:=h.w;exact⟨⟨⟨lv,h1.set 5 _,pR h1 h2 _ _⟩,uz h1 h.f _ _⟩,kU h1 _ _⟩
theorem Nk.setTo {g:Nat} {fv:Value} {F:List Lf} {s:Ps} {W:World} {ga c n:Nat} (h1:Bk W g 72 #[fv,.string ⟨(FQ F).toArray⟩,.slice (some ⟨ga,0,none⟩) n c,.int .i64 (s.p:Int),.int .i64 s.up,.int .i64 (s.deep:Int)])
    (h2:W.ownsRow g 49 4 (.slice (some ⟨ga,0,none⟩) n c) s.l.length (dt s.l)) (hf:Rd W g 4 fv F.length (fh F)) (i t:Nat) (hi:i<s.l.length) :
    Nk g fv F {s with l:=dh s.l i t} (W.setCell ⟨ga,i*4+2,none⟩ (.int .i64 (t:Int)))∧Fn g W (W.setCell ⟨ga,i*4+2,none⟩ (.int .i64 (t:Int))):=by
  have hne:ga≠g:=fun e=>aL h2 h1 (by decide) (by rw[e];rfl)
  obtain⟨e1,_,_,e4,e5⟩:=dc h2;subst e1;have hh:=gJ h2;have hs:=kC h2 (i*4+2) (.int .i64 (t:Int));rw[qa _ _ _ hi] at hs;have hg:=aK (bT W (some ga)) (i*4+2) (.int .i64 (t:Int))
  refine⟨⟨⟨_,h1.grown hg (fun e=>hne (by injection e with e;exact e.symm)),by show World.ownsRow _ _ _ _ _ (dh _ _ _).length _;rw[dr];exact hs⟩,hf.keep (EB (Below.refl _ _) hg (Nat.le_of_lt h1.lt) e4) (Nat.le_refl _)⟩,
    ⟨EB (Below.refl _ _) hg (Nat.le_of_lt h1.lt) e4,(KT.refl _ W).setCell hh (by decide) _ _⟩⟩
theorem Nk.push {g:Nat} {fv:Value} {F:List Lf} {s:Ps} {W W':World} {lv v':Value} {x:Nd} (h1:Bk W g 72 #[fv,.string ⟨(FQ F).toArray⟩,lv,.int .i64 (s.p:Int),.int .i64 s.up,.int .i64 (s.deep:Int)])
    (h2:W.ownsRow g 49 4 lv s.l.length (dt s.l)) (hf:Rd W g 4 fv F.length (fh F)) (ho:W'.ownsRow g 49 4 v' (s.l.length+1) (dt s.l++dt [x])) (hg:W.grownBy W' lv.ownBlock) :
    Nk g fv F {s with l:=s.l++[x]} (W'.setCell ⟨g,2,none⟩ v')∧Fn g W (W'.setCell ⟨g,2,none⟩ v'):=by
  have k1:Bk W' g 72 _:=h1.grown hg (fun e=>aL h2 h1 (by decide) e.symm);have kfr:Fn g W W':=⟨Below.grown (Below.refl _ _) hg (Nat.le_of_lt h1.lt) (fun k hk=>(h2.lt k hk).1),(KT.refl _ W).grown hg (fun k hk=>by obtain⟨cs,t,fr,e1,e2⟩:=ij h2 k hk;exact⟨cs,t,fr,e1,by rw[e2];decide⟩)⟩;have kf:Rd W' g 4 fv F.length (fh F):=hf.keep kfr.hb (Nat.le_refl _);rw[←rJ] at ho;refine⟨⟨⟨v',k1.set 2 v',?_⟩,uz k1 kf _ _⟩,kfr.trans (kU k1 _ _)⟩;show World.ownsRow _ _ _ _ _ (s.l++[x]).length _;rw[List.length_append];exact pR k1 ho _ _
theorem Bk.sixn {w:World} {g:Nat} {t:TypeId} {x0 x1 x2 x3 x4 x5:Value} (h:Bk w g t #[x0,x1,x2,x3,x4,x5]):w.cell? ⟨g,0,none⟩=some x0∧w.cell? ⟨g,1,none⟩=some x1∧w.cell? ⟨g,2,none⟩=some x2∧w.cell? ⟨g,3,none⟩=some x3∧w.cell? ⟨g,4,none⟩=some x4∧w.cell? ⟨g,5,none⟩=some x5:=
  ⟨h.cell 0,h.cell 1,h.cell 2,h.cell 3,h.cell 4,h.cell 5⟩
structure Ny (g:Nat) (fv:Value) (F:List Lf) (W:World) (t:Ps) (w':World):Prop where
  m:Nk g fv F t w'
  f:Fn g W w'
abbrev GN (f:FuncId) (g:Nat) (fv:Value) (F:List Lf) (W:World) (r:Value) (t:Ps):Prop:=Calls Tryz.prog f #[.pointer (some ⟨g,0,none⟩)] W fun e w'=>e=.returned r∧Ny g fv F W t w'
theorem Ny.of {g:Nat} {fv:Value} {F:List Lf} {W W1 w':World} {t:Ps} (h:Nk g fv F t W1∧Fn g w' W1):Ny g fv F w' t W1:=⟨h.1,h.2⟩
theorem Ny.start {g:Nat} {fv:Value} {F:List Lf} {s:Ps} {W:World} (h:Nk g fv F s W):Ny g fv F W s W:=⟨h,Fn.refl _ _⟩
theorem Ny.next {g:Nat} {fv:Value} {F:List Lf} {s:Ps} {W W1 w':World} (h:Ny g fv F W s W1) (hb:Below W1.heap.size W1 w'):Ny g fv F W s w':=⟨(h.m.next hb).1,h.f.trans (h.m.next hb).2⟩
theorem Ny.then {g:Nat} {fv:Value} {F:List Lf} {s t:Ps} {W W1 w':World} (h:Ny g fv F W s W1) (k:Ny g fv F W1 t w'):Ny g fv F W t w':=⟨k.m,h.f.trans k.f⟩
theorem Ny.drew {g:Nat} {fv:Value} {F:List Lf} {s:Ps} {W W1:World} (h:Ny g fv F W s W1) (n:Nat):Ny g fv F W s (W1.drewN n):=h.next (ae (Below.refl _ _) n)
theorem Ny.setP {g:Nat} {fv:Value} {F:List Lf} {s:Ps} {W W1:World} (h:Ny g fv F W s W1) (p:Nat):Ny g fv F W {s with p:=p} (W1.setCell ⟨g,3,none⟩ (.int .i64 (p:Int))):=⟨(h.m.setP p).1,h.f.trans (h.m.setP p).2⟩
theorem Ny.setUp {g:Nat} {fv:Value} {F:List Lf} {s:Ps} {W W1:World} (h:Ny g fv F W s W1) (u:Int):Ny g fv F W {s with up:=u} (W1.setCell ⟨g,4,none⟩ (.int .i64 u)):=⟨(h.m.setUp u).1,h.f.trans (h.m.setUp u).2⟩
theorem Ny.setDeep {g:Nat} {fv:Value} {F:List Lf} {s:Ps} {W W1:World} (h:Ny g fv F W s W1) (d:Nat):Ny g fv F W {s with deep:=d} (W1.setCell ⟨g,5,none⟩ (.int .i64 (d:Int))):=⟨(h.m.setDeep d).1,h.f.trans (h.m.setDeep d).2⟩
theorem Nk.cells {g:Nat} {fv:Value} {F:List Lf} {s:Ps} {W:World} (h:Nk g fv F s W):(W.cell? ⟨g,0,none⟩=some fv∧W.cell? ⟨g,1,none⟩=some (.string ⟨(FQ F).toArray⟩)∧W.cell? ⟨g,3,none⟩=some (.int .i64 (s.p:Int))∧W.cell? ⟨g,4,none⟩=some (.int .i64 s.up)∧W.cell? ⟨g,5,none⟩=some (.int .i64 (s.deep:Int))) ∧
    W.frozen? ⟨g,2,none⟩=false∧W.frozen? ⟨g,3,none⟩=false∧W.frozen? ⟨g,4,none⟩=false∧W.frozen? ⟨g,5,none⟩=false:=by
  obtain⟨lv,hb,_⟩:=h.w;obtain⟨c0,c1,_,c3,c4,c5⟩:=hb.sixn;exact⟨⟨c0,c1,c3,c4,c5⟩,hb.frozen _,hb.frozen _,hb.frozen _,hb.frozen _⟩
section
variable {g:Nat} {fv:Value} {F:List Lf} {s:Ps} {W:World} (hF:FB F)
include hF
end
def FH (g:Nat) (fv:Value) (F:List Lf) (L:Ps→Ps) (q:Nat):Prop:=∀(s:Ps) (W:World),q≤s.p→Bd F 19 s→bH F s=true→Nk g fv F s W →
  GN 36 g fv F W (.tuple #[]) (an 2 L s)
section
variable {g:Nat} {fv:Value} {F:List Lf} {L:Ps→Ps} {q:Nat} {s:Ps} {W:World} (hF:FB F) (hL:GL F L) (HL:FH g fv F L q)
include hF HL
end
end
end Go.Proofs.YtfagdpfgifgnoaaGreatDoor
