/- Chapter 10: a lexed text's tokens, lexing and text, told of the text alone; an edit's inverse. -/
import Derived.Test.YtclllfmbldeneaaGreatDoorCm10
namespace Go.Proofs.YtclllfmbldeneaaGreatDoor
open Go.RowKit
set_option linter.unusedVariables false
set_option linter.unusedSimpArgs false
set_option maxRecDepth 100000
theorem tkp_doc {l:List UInt8} {xs:List PV} (hpr:prx xs=plcs l):tkp xs=(lexL l).1:=by
  have h1:=plc_lex1 l 0 lx0
  have h2:=congrArg (List.map Prod.fst) hpr
  rw[show (lexL l).1=(lexA l 0 lx0).1 from rfl,h1,←h2]
  simp[tkp,prx]
theorem dtext_m (g:Nat) (l:List UInt8) (w:World) (hD:DocP w g l) :
    Calls Tryz.prog 21 #[.pointer (some ⟨g,0,none⟩)] w fun e w'=>e=.returned (.string ⟨l.toArray⟩)∧w'=w:=by
  obtain⟨xs,lv,pv,hpr,hD,hr⟩:=hD
  exact text10_m g l _ xs lv pv w hD
theorem dtok_m (g:Nat) (l:List UInt8) (w:World) (hD:DocP w g l) (hl:l.length≤900) :
    Calls Tryz.prog 12 #[.pointer (some ⟨g,0,none⟩)] w fun e w'=>∃v,e=.returned v∧w'.ownsRow w.heap.size 40 4 v (lexL l).1.length (tkcs (lexL l).1)∧Below w.heap.size w w':=by
  obtain⟨xs,lv,pv,hpr,hD,hr⟩:=hD
  obtain⟨hlen1,hlen2⟩:=prx_len hpr
  have h:=tokens_m g l _ xs lv pv w hD hr (by omega)
  rw[tkp_doc hpr] at h
  have htl:(lexL l).1.length=xs.length:=by rw[←tkp_doc hpr];simp[tkp]
  rwa [←htl] at h
theorem dlex_m (g:Nat) (l:List UInt8) (w:World) (hD:DocP w g l) (hl:l.length≤900) :
    Calls Tryz.prog 19 #[.pointer (some ⟨g,0,none⟩)] w fun e w'=>∃v',e=.returned (.agg #[.int .i64 (lexL l).2.aw,v',.bool (lexL l).2.bd])∧Rt w' 83 2 v' (lexL l).2.pd.length (dcls (lexL l).2.pd)∧Below w.heap.size w w':=by
  obtain⟨xs,lv,pv,hpr,hD,hr⟩:=hD
  exact lexing_m g l _ xs lv pv w hD (by have:=lexL_pd l;omega)
structure DocC (l:List UInt8) (N:Nat) (ts:List Tk) (Y:Lx):Prop where
  tx:∀g W,DocP W g l→Calls Tryz.prog 21 #[.pointer (some ⟨g,0,none⟩)] W fun e w'=>e=.returned (.string ⟨l.toArray⟩)∧w'=W
  tk:∀g W,DocP W g l→Calls Tryz.prog 12 #[.pointer (some ⟨g,0,none⟩)] W fun e w'=>∃v,e=.returned v∧w'.ownsRow W.heap.size 40 4 v N (tkcs ts)∧Below W.heap.size W w'
  lx:∀g W,DocP W g l→Calls Tryz.prog 19 #[.pointer (some ⟨g,0,none⟩)] W fun e w'=>∃v',e=.returned (.agg #[.int .i64 Y.aw,v',.bool Y.bd])∧Rt w' 83 2 v' Y.pd.length (dcls Y.pd)∧Below W.heap.size W w'
  st:∀(A A':Option Addr) (c c':Nat) (W:World),Rd W W.heap.size 4 (.slice A N c) N (tkcs ts)→Rd W W.heap.size 4 (.slice A' N c') N (tkcs ts)→Calls Tryz.prog 16 #[.slice A N c,.slice A' N c'] W fun e w'=>e=.returned (.bool true)∧Below W.heap.size W w'
  sx:∀(A A':Option Addr) (c c':Nat) (W:World),Rt W 83 2 (.slice A Y.pd.length c) Y.pd.length (dcls Y.pd)→Rt W 83 2 (.slice A' Y.pd.length c') Y.pd.length (dcls Y.pd)→Calls Tryz.prog 22 #[.agg #[.int .i64 Y.aw,.slice A Y.pd.length c,.bool Y.bd],.agg #[.int .i64 Y.aw,.slice A' Y.pd.length c',.bool Y.bd]] W fun e w'=>e=.returned (.bool true)∧Below W.heap.size W w'
  n:N=ts.length
theorem docC (l:List UInt8) (hl:l.length≤900):∃N ts Y,DocC l N ts Y:=by
  have h1:=lexL_pd l
  have h2:=lexL_len l
  refine⟨_,(lexL l).1,(lexL l).2,fun g W h=>dtext_m g l W h,fun g W h=>dtok_m g l W h hl,fun g W h=>dlex_m g l W h hl,fun A A' c c' W h1 h2=>samet_m _ A A' c c' W (by omega) h1 h2,fun A A' c c' W h1 h2=>?_,rfl⟩
  have h:=same9_r (lexL l).2 (lexL l).2 A A' c c' W h1.rd h2.rd (by omega) (by omega)
  rwa [(sameL_iff (lexL l).2 (lexL l).2).2 rfl] at h
structure UnI (w:World) (g bx:Nat) (l:List UInt8) (x:Ez) (N:Nat) (ts:List Tk) (v v3:Value) (Y:Lx) (W:World):Prop where
  doc:DocP W g l
  be:Bk W w.heap.size 23 #[.int .i64 x.a,.string ⟨x.d.toArray⟩,.string ⟨x.i.toArray⟩]
  bx:Bk W bx 48 #[.int .i64 Y.aw,v3,.bool Y.bd]
  row:W.ownsRow w.heap.size 40 4 v N (tkcs ts)
  rt:Rt W 83 2 v3 Y.pd.length (dcls Y.pd)
  hb:Below w.heap.size w W
theorem UnI.below {w:World} {g bx:Nat} {l:List UInt8} {x:Ez} {N:Nat} {ts:List Tk} {v v3:Value} {Y:Lx} {W W':World} (h:UnI w g bx l x N ts v v3 Y W) (hb:Below W.heap.size W W'):UnI w g bx l x N ts v v3 Y W':=
  ⟨h.doc.next hb,h.be.below hb h.be.lt,h.bx.below hb h.bx.lt,own_below h.row hb,h.rt.next hb,h.hb.trans (hb.mono h.hb.size)⟩
theorem UnI.apply {w:World} {g bx:Nat} {l l':List UInt8} {x:Ez} {N:Nat} {ts:List Tk} {v v3:Value} {Y:Lx} {W W':World} (h:UnI w g bx l x N ts v v3 Y W) (hgw:w.heap.size≤g) (hg:W.grownBy W' (some g)) (hD:DocP W' g l'):UnI w g bx l' x N ts v v3 Y W':=by
  obtain⟨xs,lv,pv,h1,h2,h3⟩:=h.doc
  have n1:w.heap.size≠g:=bk_ne h.be h2.bk (by decide)
  have n2:bx≠g:=bk_ne h.bx h2.bk (by decide)
  exact⟨hD,h.be.grown hg (fun e=>n1 (by injection e)),h.bx.grown hg (fun e=>n2 (by injection e)),h.row.kept hg (.inr (fun e=>own_ne h.row h2.bk (by decide) e)),
    h.rt.keep hg (fun k hk=>by injection hk with hk;subst hk;exact⟨_,_,_,h2.bk,by decide⟩),Below.grown h.hb hg h.hb.size (fun k hk=>by injection hk with hk;omega)⟩
theorem okE_of (e:Ed):okE e.old e.d (e.a.length:Int)=true∧newL e.old e.d e.i (e.a.length:Int)=e.new:=by
  have h1:e.old.drop e.a.length=e.d++e.c:=by unfold Ed.old;rw[List.drop_left]
  refine⟨?_,?_⟩
  ·rw[okE_cut (by unfold Ed.old;simp only[List.length_append];omega) (by unfold Ed.old;simp only[List.length_append];omega),h1,List.take_left]
   simp
  ·unfold newL Ed.new
   rw[Int.toNat_natCast,←List.drop_drop,h1,List.drop_left]
   unfold Ed.old
   rw[List.take_left]
theorem okE_inv {l d i:List UInt8} {a:Int} (h:okE l d a=true):okE (newL l d i a) i a=true∧newL (newL l d i a) i d a=l:=by
  obtain⟨e,e1,e2,e3,e4,e5⟩:=okE_ed h i
  have:=okE_of ⟨e.a,e.i,e.d,e.c⟩
  rw[show (⟨e.a,e.i,e.d,e.c⟩:Ed).old=e.new from rfl,show (⟨e.a,e.i,e.d,e.c⟩:Ed).new=e.old from rfl] at this
  rw[e2,e1,e3,e4,e5] at this
  exact this
end Go.Proofs.YtclllfmbldeneaaGreatDoor
