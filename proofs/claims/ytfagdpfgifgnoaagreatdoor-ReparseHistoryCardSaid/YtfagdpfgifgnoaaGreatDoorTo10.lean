/- Package relex: Tokens, Leaves. -/
import Derived.Test.YtfagdpfgifgnoaaGreatDoorRt10
import Derived.Test.YtfagdpfgifgnoaaGreatDoorEc9
import Derived.Test.YtfagdpfgifgnoaaGreatDoorSm9
set_option linter.unusedVariables false
set_option linter.unusedSimpArgs false
set_option maxRecDepth 100000
set_option maxHeartbeats 8000000
namespace Go.Proofs.YtfagdpfgifgnoaaGreatDoor
open Go.RowKit
def sF (xs:List PV):List Tk:=xs.map fun q=>q.t
theorem qH (g:Nat) (l:List UInt8) (X:Lx) (xs:List PV) (lv pv:Value) (w:World) (hD:jF w g l X xs lv pv) (hr:Rt w 96 7 lv xs.length (dy xs)) (hx:xs.length≤10000) :
    Calls Tryz.prog 23 #[.pointer (some ⟨g,0,none⟩)] w fun e w'=>∃v,e=.returned v∧w'.ownsRow w.heap.size 94 4 v xs.length (fU (sF xs))∧Below w.heap.size w w':=by
  obtain⟨i0,hi,hz0,hz1,hz2⟩:=info_parts Tryz.infoToken;obtain⟨A,c,rfl⟩:=hr.form;obtain⟨n,hn⟩:∃n,n=xs.length:=⟨_,rfl⟩;have hg:=hD.bk.lt;have y1:w.cell? ⟨g,1,none⟩=some (.slice A n c):=by rw[hD.bk.cell,hn];rfl
  obtain⟨w1,hmk,hown1,hg1⟩:=run_make_own (P:=Tryz.prog) w w.heap.size 56 94 i0 _ 4 Tryz.underlying56 hi hz0 hz1 .i64 .i64 n (by rw[hz2];omega) (by unfold maxLen;omega) (Nat.le_refl _);have hb1:Below w.heap.size w w1:=(Below.refl _ w).grown hg1 (Nat.le_refl _) (fun k hk=>by cases hk);have y2:w1.cell? ⟨g,1,none⟩=some (.slice A n c):=by rw[(hD.bk.below hb1 hg).cell,hn];rfl
  have hps:∀q∈xs,∃A n c,q.v=.slice A n c:=fun q hq=>by obtain⟨A,c,h⟩:=(hD.ps q hq).form;exact⟨A,_,c,h⟩
  have H:=Lib.hid (And.intro hown1 (And.intro hb1 (And.intro hr (And.intro hn hps))));rw[←hn] at hx ⊢;clear hown1 hb1 hr hn hD hg1 hps;go_enter Tryz.func23,Tryz.ntmps23;go_wp2;go_loopw [3,17] (fun o i wr=>∃k:Nat,k≤n∧i=.int .i64 (k:Int)∧wr.ownsRow w.heap.size 94 4 o k (fU (sF (xs.take k)))∧Below w.heap.size w wr) (fun o i _=>n-(intOf i).toNat)
  case atStart=>exact⟨0,Nat.zero_le _,rfl,H.out.1,H.out.2.1⟩
  case round=>
    obtain⟨k,hk,rfl,hown,hb⟩:=hrel;obtain⟨A2,n2,c2,rfl⟩:=az hown;obtain rfl:k=n2:=(bN hown).symm;by_cases hlt:k<n
    ·have u1:(k:Int)<(n:Int):=by omega
     have u2:(0:Int)≤(k:Int):=by omega
     obtain⟨q,hq⟩:∃q,xs[k]? = some q:=⟨_,List.getElem?_eq_getElem (by rw[←H.out.2.2.2.1];exact hlt)⟩;obtain⟨ga,oa,rfl,hga,hc⟩:=bS (lay:=nX) fw (H.out.2.2.1.next hb).rd hq rfl;obtain⟨qA,qn,qc,hqv⟩:=H.out.2.2.2.2 q (List.mem_of_getElem? hq);obtain⟨⟨kd,fr,tt,op⟩,⟨xa,P,xb⟩,qv,qY,qu⟩:=q;replace hqv:qv=.slice qA qn qc:=hqv;subst hqv;have z0:wr.cell? ⟨ga,oa+k*7,none⟩=some (.int .i64 (kd:Int)):=hc 0 _ rfl;have z1:wr.cell? ⟨ga,oa+k*7+1,none⟩=some (.int .i64 (fr:Int)):=hc 1 _ rfl;have z2:wr.cell? ⟨ga,oa+k*7+2,none⟩=some (.int .i64 (tt:Int)):=hc 2 _ rfl;have z3:wr.cell? ⟨ga,oa+k*7+3,none⟩=some (.bool op):=hc 3 _ rfl;have z4:wr.cell? ⟨ga,oa+k*7+4,none⟩=some (.int .i64 xa):=hc 4 _ rfl;have z5:wr.cell? ⟨ga,oa+k*7+5,none⟩=some (.slice qA qn qc):=hc 5 _ rfl;have z6:wr.cell? ⟨ga,oa+k*7+6,none⟩=some (.bool xb):=hc 6 _ rfl;have htk:fU (sF (xs.take (k+1)))=fU (sF (xs.take k))++fU [⟨kd,fr,tt,op⟩]:=by
       obtain⟨h1,h2⟩:=List.getElem?_eq_some_iff.1 hq;rw[←wM,List.take_succ_eq_append_getElem h1,h2];simp[sF]
     have HP:=Lib.hid (And.intro hown (And.intro hb htk));clear hown hb htk hq hc;go_wp2_with (
       (at_builtin
        refine dE rfl (.tmp 21) (.tmp 24) 56 rfl w.heap.size 94 i0 _ 4 32 Tryz.underlying56 hi hz0 hz1 hz2 rfl (by decide) (.slice A2 k c2) k (fU (sF (xs.take k))) rfl ((HP.out.1.alloc _).alloc _) (.slice (some ⟨wr.heap.size+1,0,none⟩) 1 1) 1 (wr.heap.size+1+1) (fU [⟨kd,fr,tt,op⟩]) rfl (by have hr:=eM (wr.alloc (.cells #[.int .i64 (kd:Int),.int .i64 (fr:Int),.int .i64 (tt:Int),.bool op,.int .i64 xa,.slice qA qn qc,.bool xb] 96)) (fU [⟨kd,fr,tt,op⟩]) 94 4 1 rfl (by omega);rw[show (wr.alloc (.cells #[.int .i64 (kd:Int),.int .i64 (fr:Int),.int .i64 (tt:Int),.bool op,.int .i64 xa,.slice qA qn qc,.bool xb] 96)).heap.size=wr.heap.size+1 by simp] at hr;exact hr) (DN _) (by unfold maxLen;omega) (by omega) (by have:=HP.out.2.1.size;simp;omega) ?_;intro v3 w3 hown3 hg3 hv3;have hne:∀k',(Value.slice A2 k c2).ownBlock=some k'→w.heap.size≤k'∧k'<wr.heap.size:=fun k' hk=>HP.out.1.lt k' hk
        have hb3:Below w.heap.size w w3:=Below.grown ((HP.out.2.1.alloc HP.out.2.1.size _).alloc (by have:=HP.out.2.1.size;simp;omega) _) hg3 (by have:=HP.out.2.1.size;simp;omega) (fun k' hk=>(hne k' hk).1);have H3:=Lib.hid (And.intro hown3 hb3);clear hown3 hg3 hv3 hb3 hne))
     refine⟨⟨k+1,by omega,by go_num,?_,H3.out.2⟩,by simp[intOf];omega⟩;rw[HP.out.2.2];exact H3.out.1
    ·obtain rfl:k=n:=by omega
     have u1:¬(k:Int)<(k:Int):=by omega
     rw[List.take_of_length_le (by rw[H.out.2.2.2.1];exact Nat.le_refl _)] at hown;have HP:=Lib.hid (And.intro hown hb);clear hown hb;go_wp2;go_ret;exact⟨_,rfl,HP.out.1,HP.out.2⟩
theorem jF.below {w w':World} {g:Nat} {l:List UInt8} {X:Lx} {xs:List PV} {lv pv:Value} (h:jF w g l X xs lv pv) (hb:Below w.heap.size w w'):jF w' g l X xs lv pv:=
  ⟨h.bk.below hb h.bk.lt,fun q hq=>(h.ps q hq).next hb,h.pv.next hb⟩
theorem DZ (g:Nat) (l:List UInt8) (X:Lx) (xs:List PV) (lv pv:Value) (w:World) (hD:jF w g l X xs lv pv) (hr:Rt w 96 7 lv xs.length (dy xs)) (hx:xs.length≤10000) (hl:l.length≤100000) :
    Calls Tryz.prog 42 #[.pointer (some ⟨g,0,none⟩)] w fun e w'=>∃v,e=.returned v∧w'.ownsRow w.heap.size 61 4 v (di l ((sF xs).map tz)).length (fh (di l ((sF xs).map tz)))∧Below w.heap.size w w':=by
  have hg:=hD.bk.lt;have y0:w.cell? ⟨g,0,none⟩=some (.string ⟨l.toArray⟩):=by rw[hD.bk.cell];rfl
  have hT:∀W,Below w.heap.size w W→Calls Tryz.prog 23 #[.pointer (some ⟨g,0,none⟩)] W fun e w'=>∃v,e=.returned v∧w'.ownsRow W.heap.size 94 4 v xs.length (fU (sF xs))∧Below W.heap.size W w':=fun W hW=>qH g l X xs lv pv W (hD.below hW) (hr.next hW) hx
  have hlen:((sF xs).map tz).length=xs.length:=by simp[sF]
  obtain⟨n,hn⟩:∃n,n=xs.length:=⟨_,rfl⟩;obtain⟨Z,hZ⟩:∃Z,Z=(sF xs).map tz:=⟨_,rfl⟩;have htk:fU (sF xs)=Z.flatMap FN:=by rw[hZ];exact AE _
  rw[htk] at hT;rw[←hZ] at hlen ⊢;rw[←hn] at hT hlen hx;clear hZ htk hn;subst hlen;have H:=Lib.hid (And.intro hT hD);clear hT hD hr;obtain⟨w0,rfl⟩:∃w0:World,w0=w:=⟨_,rfl⟩;go_enter Tryz.func42,Tryz.ntmps42;go_wp2
  go_region_with (first
    | (go_at_call 23;refine(H.out.1 _ (Below.refl _ _).drew).mono ?_;rintro e w2 ⟨v2,rfl,ho,hb2⟩;obtain⟨A2,n2,c2,rfl⟩:=az ho;obtain rfl:=bN ho;have z0:w2.cell? ⟨g,0,none⟩=some (.string ⟨l.toArray⟩):=by rw[((Bk.drew H.out.2.bk).below hb2 hg).cell];rfl
       have H2:=Lib.hid (And.intro ho hb2);clear ho hb2)
    | (go_at_call 63;refine(yI l Z A2 c2 w2 hl (by omega) (Rd.of_own H2.out.1)).mono ?_;rintro e w3 ⟨v3,rfl,ho3,hb3⟩;have H3:=Lib.hid (And.intro ho3 hb3);clear ho3 hb3))
  all_goals go_wp2
  all_goals go_ret
  all_goals exact⟨_,rfl,ez H3.out.1 H2.out.2.size,((Below.refl _ _).drew.trans H2.out.2).trans (H3.out.2.mono H2.out.2.size)⟩
end Go.Proofs.YtfagdpfgifgnoaaGreatDoor
