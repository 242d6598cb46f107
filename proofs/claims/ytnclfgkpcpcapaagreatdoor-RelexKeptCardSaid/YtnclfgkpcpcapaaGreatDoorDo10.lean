/- A lexed text in memory. -/
import Derived.Test.YtnclfgkpcpcapaaGreatDoorFr10
namespace Go.Proofs.YtnclfgkpcpcapaaGreatDoor
open Go.RowKit
set_option linter.unusedVariables false
set_option linter.unusedSimpArgs false
set_option maxRecDepth 100000
theorem Tryz.infoPlace:(Tryz.prog.info? 52).map (fun i=>(i.zero,i.size,i.bytes))=some (some (.agg #[.int .i64 0,.int .i64 0,.int .i64 0,.bool false,.int .i64 0,.slice none 0 0,.bool false]),7,72):=by kernel_rfl
theorem own_xg {X:Nat→Prop} {A B:World} {N e sz n:Nat} {v:Value} {xs:List Value} (h:A.ownsRow N e sz v n xs) (hx:XG X A B) (hn:∀k,v.ownBlock=some k→¬X k):B.ownsRow N e sz v n xs:=by
  refine⟨h.1,?_⟩
  rcases h.2 with h|⟨g,cap,cur,he,hg,hh,r⟩
  ·exact .inl h
  ·exact .inr ⟨g,cap,cur,he,hg,(hx.block g (Array.getElem?_eq_some_iff.1 hh).1 (hn g (by rw[he];rfl))).trans hh,r⟩
structure DocR (w:World) (g:Nat) (l:List UInt8) (X:Lx) (xs:List PV) (lv pv:Value):Prop where
  bk:Bk w g 47 #[.string ⟨l.toArray⟩,lv,.int .i64 X.aw,pv,.bool X.bd]
  ps:∀q∈xs,Rt w 73 2 q.v q.X.pd.length (dcls q.X.pd)
  pv:Rt w 73 2 pv X.pd.length (dcls X.pd)
theorem DocR.kc {T:List TypeId} {w w':World} {g:Nat} {l:List UInt8} {X:Lx} {xs:List PV} {lv pv:Value} (h:DocR w g l X xs lv pv) (hk:KC T w w') (hb:w'.heap[g]? = w.heap[g]?) (hd:73∉T):DocR w' g l X xs lv pv:=
  ⟨hb.trans h.bk,fun q hq=>(h.ps q hq).kc hk hd,h.pv.kc hk hd⟩
def DocP (w:World) (g:Nat) (l:List UInt8):Prop:=∃(xs:List PV) (lv pv:Value),prx xs=plcs l∧DocR w g l (lexL l).2 xs lv pv∧Rt w 52 7 lv xs.length (pvs xs)
end Go.Proofs.YtnclfgkpcpcapaaGreatDoor
