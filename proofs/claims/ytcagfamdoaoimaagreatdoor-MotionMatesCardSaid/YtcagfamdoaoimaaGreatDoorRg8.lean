/- Which parts are around a place, which are right within one: the tests. -/
import Derived.Test.YtcagfamdoaoimaaGreatDoorPa0
import Derived.Test.YtcagfamdoaoimaaGreatDoorFl8
import Derived.Test.YtcagfamdoaoimaaGreatDoorRfy
import Derived.Test.YtcagfamdoaoimaaGreatDoorLa9
import Derived.BigQuiet
import Derived.Deep.DeepCutAuto
import Derived.Deep.CutBlock
import Derived.IntWalk
set_option linter.unusedVariables false
set_option linter.unusedSimpArgs false
set_option maxRecDepth 100000
set_option maxHeartbeats 8000000
namespace Go.Proofs.YtcagfamdoaoimaaGreatDoor
open Go.RowKit
variable {L:List fh} {xs:List Value} {B sz i:Nat} {q:fh} (P:List Pc) (t:List UInt8) (fr:Bool) (c n:Nat) (A:Option Addr) (w:World)
theorem Kr {w:World} {n c:Nat} {A:Option Addr} (h:Rd w B sz (.slice A n c) n xs) (hn:0<n):∃g o,A=some ⟨g,o,none⟩∧g<B∧∀j u,xs[j]? = some u→w.cell? ⟨g,o+j,none⟩=some u:=by
  obtain⟨_,A',c',he,_,_,_,h2⟩:=h
  cases he;exact h2 hn
theorem IZ {w:World} {n c:Nat} {A:Option Addr} (h:Rd w B 5 (.slice A n c) n (fw L)) (hi:L[i]? = some q) :
    ∃g o,A=some ⟨g,o,none⟩∧g<B∧w.cell? ⟨g,o+i*5,none⟩=some (.int .i64 q.mode)∧w.cell? ⟨g,o+i*5+1,none⟩=some (.int .i64 q.fr)∧w.cell? ⟨g,o+i*5+2,none⟩=some (.int .i64 (tu q))∧w.cell? ⟨g,o+i*5+3,none⟩=some (.int .i64 q.up)∧w.cell? ⟨g,o+i*5+4,none⟩=some (.bool q.op):=by
  have hn:n=L.length:=by have h1:=h.1;rw[AJ] at h1;omega
  have hL:=(ay.1 hi).1;obtain⟨g,o,rfl,hg,hc⟩:=Kr h (by omega);exact⟨g,o,rfl,hg,hc _ _ (eW _ i q hi 0 _ rfl),by rw[dE];exact hc _ _ (eW _ i q hi 1 _ rfl),by rw[dE];exact hc _ _ (eW _ i q hi 2 _ rfl),by rw[dE];exact hc _ _ (eW _ i q hi 3 _ rfl),by rw[dE];exact hc _ _ (eW _ i q hi 4 _ rfl)⟩
def ux (o:Option fh):Value:=match o with
  | none=>.tuple #[.agg #[.int .i64 0,.int .i64 0,.int .i64 0,.int .i64 0,.bool false],.int .i64 0]
  | some q=>.tuple #[.agg #[.int .i64 q.mode,.int .i64 q.fr,.int .i64 (tu q),.int .i64 q.up,.bool q.op],.int .i64 1]
theorem LX (L:List fh) (x c n:Nat) (A:Option Addr) (w:World) (hL:L.length≤100000) (hn:n=L.length) (hr:Rd w w.heap.size 5 (.slice A n c) n (fw L)) :
    jL 173 #[.slice A n c,.int .i64 (x:Int)] w (ux (gE L x)):=by
  subst hn;have H:=aa hr;clear hr;go_enter Tryz.func173,Tryz.ntmps173;go_wp2_with fail;go_loopw [6] (fun i wx=>∃k:Nat,k≤L.length∧i=.int .i64 k∧(L.take k).find? (fun q=>q.fr==(x:Int))=none∧wx=w.alloc (.cells #[.int .i64 0,.int .i64 0,.int .i64 0,.int .i64 0,.bool false] 79)) (fun i _=>L.length-(intOf i).toNat)
  case atStart=>exact⟨0,by omega,rfl,rfl,rfl⟩
  case round=>
    obtain⟨k,hk,rfl,hno,rfl⟩:=hrel;have hw1:Below w.heap.size w (w.alloc (.cells #[.int .i64 0,.int .i64 0,.int .i64 0,.int .i64 0,.bool false] 79)):=aY (aC _ _) (au _) _;by_cases hlt:k<L.length
    ·have u1:(k:Int)<(L.length:Int):=by omega
     have u2:(0:Int)≤(k:Int):=by omega
     obtain⟨q,hq⟩:∃q,L[k]? = some q:=⟨_,ax hlt⟩;obtain⟨g,o,rfl,hg,y0,y1,y2,y3,y4⟩:=IZ (H.out.keep hw1 (au _)) hq;have hgw:¬g=w.heap.size:=by omega
     have htk:(L.take (k+1)).find? (fun q=>q.fr==(x:Int))=if (q.fr==(x:Int))=true then some q else none:=by
       obtain⟨h1,h2⟩:=ay.1 hq;rw[bM h1,h2,List.find?_append,hno];by_cases hx:(q.fr==(x:Int))=true
       ·rw[aD hx];simp[List.find?_cons,hx]
       ·rw[aB hx];simp[List.find?_cons,hx]
     have HQ:=aa (ac htk hw1);clear htk hw1 hno hq
     cases hx:(q.fr==(x:Int))
     ·have HX:=aa hx;go_wp2_with fail;exact⟨⟨k+1,by omega,by go_num,by rw[HQ.out.1,aB (by rw[HX.out];simp)],by first|rfl|trivial⟩,by simp[intOf];omega⟩
     ·have HX:=aa hx;have e:gE L x=some q:=by
        unfold gE;have h1:=HQ.out.1;rw[aD HX.out] at h1;rw[←dr (k+1) L,List.find?_append,h1];rfl
      have HE:=aa e;clear e;go_wp2_with fail;exact aK (v:=ux (some q)) (by simp[results,Tryz.results173,go_sem,ux]) rfl ⟨by rw[HE.out],aY (aC _ _) (au _) _⟩
    ·obtain rfl:k=L.length:=by omega
     rw[bR (au _)] at hno;have HQ:=aa (ac hno hw1);clear hno hw1;go_wp2_with fail;exact aK (v:=ux none) (by simp[results,Tryz.results173,go_sem,ux]) rfl ⟨by unfold gE;rw[HQ.out.1],HQ.out.2⟩
theorem Fy (h:P.length=0∨fr=true):tN P t fr=P++[⟨false,false,t⟩]:=by
  unfold tN;rcases h with h|h
  ·obtain rfl:=bP h;rfl
  ·subst h
   cases P.getLast? <;> rfl
theorem Fz (x:Pc) (hn:P.length=n+1) (hx:P[n]? = some x):tN P t false=P.take n++[⟨false,false,x.tx++t⟩]:=by
  unfold tN;have h1:P.getLast? = some x:=by rw[List.getLast?_eq_getElem?,hn,dI];exact hx
  rw[h1];have h2:P.dropLast=P.take n:=by rw[List.dropLast_eq_take,hn,dI]
  simp only[h2,bQ]
theorem Fw (hn:n=P.length) (hP:P.length≤100000) (hr:Rd w w.heap.size 3 (.slice A n c) n (fm P)) (h:P.length=0∨fr=true) :
    Calls Tryz.prog 174 #[.slice A n c,.string ⟨t.toArray⟩,.bool fr] w fun e w'=>∃v',e=.returned v'∧w'.ownsRow w.heap.size 142 3 v' (tN P t fr).length (fm (tN P t fr))∧Below w.heap.size w w':=by
  rw[Fy P t fr h];obtain⟨i0,hi0,hz0,hz1,hz2⟩:=cD Tryz.infoPiece;have H:=aa (ac hr hn);have hP':n≤100000:=by omega
  have h':n=0∨fr=true:=by rcases h with h|h;exact .inl (by omega);exact .inr h
  clear hr hn hP h;by_cases hn0:n=0;have hg:decide ((0:Int)<(n:Int))=false:=by simp;omega
  rotate_left
  obtain rfl:fr=true:=by rcases h' with h|h;omega;exact h
  have hg:(0:Int)<(n:Int):=by omega
  rotate_left
  all_goals (
    clear h';go_enter Tryz.func174,Tryz.ntmps174
    go_wp2_with (first
      | (at_builtin
         refine eD rfl (.tmp 35) (.tmp 36) 139 rfl w.heap.size 142 i0 _ 3 24 Tryz.underlying139 hi0 hz0 hz1 hz2 rfl (by decide) (.slice (some ⟨w.heap.size,0,none⟩) 0 0) 0 [] rfl (oB w _ _ _ (au _)) (.slice A n c) n w.heap.size (fm P) rfl (H.out.1.keep (by go_grown) (au _)) (gI P) (by unfold maxLen;omega) (by omega) (by simp) ?_;intro v1 w1 hown1 hg1 hv1;have hb1:Below w.heap.size w w1:=((aC _ w).alloc (au _) _).grown hg1 (by simp) (by intro k hk;simp[Value.ownBlock] at hk;omega);obtain⟨A1,n1,c1,rfl⟩:=dR hown1;have H1:=aa (ac hown1 hb1);clear hown1 hg1 hv1 hb1)
      | (at_builtin
         refine eD rfl (.tmp 37) (.tmp 40) 139 rfl w.heap.size 142 i0 _ 3 24 Tryz.underlying139 hi0 hz0 hz1 hz2 rfl (by decide) (.slice A1 n1 c1) (0+n) ([]++fm P) rfl (H1.out.1.alloc _) (.slice (some ⟨w1.heap.size,0,none⟩) 1 1) 1 (w1.heap.size+1) (fm [⟨false,false,t⟩]) rfl (fQ w1 (fm [⟨false,false,t⟩]) 142 3 1 rfl (by omega)) (gI _) (by unfold maxLen;omega) (by omega) (by have:=H1.out.2.size;simp;omega) ?_;intro v2 w2 hown2 hg2 hv2;have hb2:Below w.heap.size w w2:=(H1.out.2.alloc H1.out.2.size _).grown hg2 (by have:=H1.out.2.size;simp;omega) (fun k hk=>(H1.out.1.lt k hk).1);have H2:=aa (ac hown2 hb2);clear hown2 hg2 hv2 hb2))
    go_ret;refine⟨v2,rfl,?_,H2.out.2⟩
    have:=H2.out.1
    rw[gV,aH,←H.out.2];simpa using this)
theorem Fv (hn:P.length=n+1) (hP:P.length≤100000) (hr:Rd w w.heap.size 3 (.slice A (n+1) c) (n+1) (fm P)) (hb:∀x∈P,x.tx.length≤100000) (ht:t.length≤100000) :
    Calls Tryz.prog 174 #[.slice A (n+1) c,.string ⟨t.toArray⟩,.bool false] w fun e w'=>∃v',e=.returned v'∧w'.ownsRow w.heap.size 142 3 v' (tN P t false).length (fm (tN P t false))∧Below w.heap.size w w':=by
  obtain⟨x,hx⟩:∃x,P[n]? = some x:=⟨_,ax (by omega)⟩;rw[Fz P t n x hn hx];obtain⟨i0,hi0,hz0,hz1,hz2⟩:=cD Tryz.infoPiece;obtain⟨g,o,rfl,hg,y0,y1,y2⟩:=Kq hr hx hn.symm;have hr2:=hr.take (k:=n) (by omega);rw[Dh P n (by omega)] at hr2;have hle:n+1≤c:=by obtain⟨_,_,_,e,h,_⟩:=hr;cases e;exact h
  have hxl:=hb x (aO hx);have hxt:¬9223372036854775807<x.tx.length+t.length:=by omega
  have H:=aa (ac hr2 hn);have hn1:n≤100000:=by omega
  clear hr hr2 hx hn hP hb ht hxl;have u1:(0:Int)<(n:Int)+1:=by omega
  have u2:(n:Int)<(n:Int)+1:=by omega
  have u3:(0:Int)≤(n:Int):=by omega
  have u4:(n:Int)≤(c:Int):=by omega
  have u5:IntKind.i64.wrap (n:Int)=(n:Int):=aS _ (by omega);go_enter Tryz.func174,Tryz.ntmps174;go_upto_region 4 with fail
  refine ki fun W hbW hkW hsW=>?_
  obtain⟨_,_,c2,_⟩:=hkW.three;have hcat:ByteArray.mk x.tx.toArray++ByteArray.mk t.toArray=⟨(x.tx++t).toArray⟩:=gY _ _;have hrW:=(H.out.1.keep hbW (au _)).mono hbW.size;have hlW:=hkW.lt;have HW:=aa (ac hrW (ac hbW (ac hkW hsW)));clear hrW hbW hkW hsW y0 y1 y2 hg;go_wp2_with fail
  go_region_law (first
    | (refine dV rfl (.tmp 22) (.tmp 26) 139 rfl w.heap.size 142 i0 _ 3 24 Tryz.underlying139 hi0 hz0 hz1 hz2 rfl (by decide) (.slice (some ⟨W.heap.size,0,none⟩) 0 0) 0 [] rfl (fy (oB W _ _ _ HW.out.2.1.size)) (.slice (some ⟨g,o,none⟩) n c) n W.heap.size (fm (P.take n)) rfl (Rd.drew (HW.out.1.alloc (au _) _)) (gI _) (by unfold maxLen;omega) (by omega) (by have:=HW.out.2.1.size;simp;omega) ?_;intro v1 w1 hown1 hg1 hv1;have hb1:Below w.heap.size w w1:=cQ (Below.drew (HW.out.2.1.alloc HW.out.2.1.size _)) hg1 (by have:=HW.out.2.1.size;simp;omega) (by intro k hk;simp[Value.ownBlock] at hk;have:=HW.out.2.1.size;omega);have hk1:=((HW.out.2.2.1.alloc (.cells #[] 142)).drew).grown hg1 (by have:=HW.out.2.2.2;simp[Value.ownBlock];omega);obtain⟨_,_,c3,_⟩:=hk1.three;have H1:=aa (ac hown1 (ac hb1 trivial));clear hown1 hg1 hv1 hb1 hk1)
    | (refine dV rfl (.tmp 22) (.tmp 26) 139 rfl w.heap.size 142 i0 _ 3 24 Tryz.underlying139 hi0 hz0 hz1 hz2 rfl (by decide) (.slice (some ⟨W.heap.size,0,none⟩) 0 0) 0 [] rfl (fy ((oB W _ _ _ HW.out.2.1.size).alloc _)) (.slice (some ⟨g,o,none⟩) n c) n W.heap.size (fm (P.take n)) rfl (Rd.drew ((HW.out.1.alloc (au _) _).alloc (by simp) _)) (gI _) (by unfold maxLen;omega) (by omega) (by have:=HW.out.2.1.size;simp;omega) ?_;intro v1 w1 hown1 hg1 hv1;have hb1:Below w.heap.size w w1:=cQ (Below.drew ((HW.out.2.1.alloc HW.out.2.1.size _).alloc (by have:=HW.out.2.1.size;simp;omega) _)) hg1 (by have:=HW.out.2.1.size;simp;omega) (by intro k hk;simp[Value.ownBlock] at hk;have:=HW.out.2.1.size;omega);have hk1:=(((HW.out.2.2.1.alloc (.cells #[] 142)).alloc (.cells (fm [⟨false,false,x.tx++t⟩]).toArray 142)).drew).grown hg1 (by have:=HW.out.2.2.2;simp[Value.ownBlock];omega);obtain⟨_,_,c3,_⟩:=hk1.three;have hs1:=(fQ (W.alloc (.cells #[] 142)) (fm [⟨false,false,x.tx++t⟩]) 142 3 1 rfl (by omega));have hs2:=(hs1:Rd _ _ 3 _ 1 (fm [⟨false,false,x.tx++t⟩]));have hs3:=(Rd.drew hs2).grown hg1 (by simp[Value.ownBlock]);have H1:=aa (ac hown1 (ac hb1 hs3));clear hown1 hg1 hv1 hb1 hk1 hs1 hs2 hs3)
    | (refine dV rfl (.tmp 22) (.tmp 26) 139 rfl w.heap.size 142 i0 _ 3 24 Tryz.underlying139 hi0 hz0 hz1 hz2 rfl (by decide) (.slice (some ⟨W.heap.size+1,0,none⟩) 0 0) 0 [] rfl (fy (by have:=oB (W.alloc (.cells (fm [⟨false,false,x.tx++t⟩]).toArray 142)) w.heap.size 142 3 (by have:=HW.out.2.1.size;simp;omega);rwa [aV] at this)) (.slice (some ⟨g,o,none⟩) n c) n W.heap.size (fm (P.take n)) rfl (Rd.drew ((HW.out.1.alloc (au _) _).alloc (by simp) _)) (gI _) (by unfold maxLen;omega) (by omega) (by have:=HW.out.2.1.size;simp;omega) ?_;intro v1 w1 hown1 hg1 hv1;have hb1:Below w.heap.size w w1:=cQ (Below.drew ((HW.out.2.1.alloc HW.out.2.1.size _).alloc (by have:=HW.out.2.1.size;simp;omega) _)) hg1 (by have:=HW.out.2.1.size;simp;omega) (by intro k hk;simp[Value.ownBlock] at hk;have:=HW.out.2.1.size;omega);have hk1:=(((HW.out.2.2.1.alloc (.cells (fm [⟨false,false,x.tx++t⟩]).toArray 142)).alloc (.cells #[] 142)).drew).grown hg1 (by have:=HW.out.2.2.2;simp[Value.ownBlock];omega);obtain⟨_,_,c3,_⟩:=hk1.three;have hs1:=(fQ W (fm [⟨false,false,x.tx++t⟩]) 142 3 1 rfl (by omega));have hs2:=(hs1.alloc (by simp) (.cells #[] 142):Rd _ _ 3 _ 1 (fm [⟨false,false,x.tx++t⟩]));have hs3:=(Rd.drew hs2).grown hg1 (by simp[Value.ownBlock]);have H1:=aa (ac hown1 (ac hb1 hs3));clear hown1 hg1 hv1 hb1 hk1 hs1 hs2 hs3)
    | (refine dV rfl (.tmp 27) (.tmp 33) 139 rfl w.heap.size 142 i0 _ 3 24 Tryz.underlying139 hi0 hz0 hz1 hz2 rfl (by decide) v1 (0+n) ([]++fm (P.take n)) rfl (H1.out.1.alloc _) (.slice (some ⟨w1.heap.size,0,none⟩) 1 1) 1 _ (fm [⟨false,false,x.tx++t⟩]) rfl (fQ w1 (fm [⟨false,false,x.tx++t⟩]) 142 3 1 rfl (by omega)) (gI _) (by unfold maxLen;omega) (by omega) (by have:=H1.out.2.1.size;simp;omega) ?_;intro v2 w2 hown2 hg2 hv2;have hb2:Below w.heap.size w w2:=cQ (H1.out.2.1.alloc H1.out.2.1.size _) hg2 (by have:=H1.out.2.1.size;simp;omega) (fun k hk=>(H1.out.1.lt k hk).1);have H2:=aa (ac hown2 hb2);clear hown2 hg2 hv2 hb2)
    | (refine dV rfl (.tmp 27) (.tmp 33) 139 rfl w.heap.size 142 i0 _ 3 24 Tryz.underlying139 hi0 hz0 hz1 hz2 rfl (by decide) v1 (0+n) ([]++fm (P.take n)) rfl H1.out.1 (.slice (some ⟨W.heap.size+1,0,none⟩) 1 1) 1 _ (fm [⟨false,false,x.tx++t⟩]) rfl (by simpa using H1.out.2.2) (gI _) (by unfold maxLen;omega) (by omega) (by have:=H1.out.2.1.size;simp;omega) ?_;intro v2 w2 hown2 hg2 hv2;have hb2:Below w.heap.size w w2:=cQ H1.out.2.1 hg2 (by have:=H1.out.2.1.size;simp;omega) (fun k hk=>(H1.out.1.lt k hk).1);have H2:=aa (ac hown2 hb2);clear hown2 hg2 hv2 hb2)
    | (refine dV rfl (.tmp 27) (.tmp 33) 139 rfl w.heap.size 142 i0 _ 3 24 Tryz.underlying139 hi0 hz0 hz1 hz2 rfl (by decide) v1 (0+n) ([]++fm (P.take n)) rfl H1.out.1 (.slice (some ⟨W.heap.size,0,none⟩) 1 1) 1 _ (fm [⟨false,false,x.tx++t⟩]) rfl H1.out.2.2 (gI _) (by unfold maxLen;omega) (by omega) (by have:=H1.out.2.1.size;simp;omega) ?_;intro v2 w2 hown2 hg2 hv2;have hb2:Below w.heap.size w w2:=cQ H1.out.2.1 hg2 (by have:=H1.out.2.1.size;simp;omega) (fun k hk=>(H1.out.1.lt k hk).1);have H2:=aa (ac hown2 hb2);clear hown2 hg2 hv2 hb2))
  all_goals (
    go_wp2_with fail;go_ret;refine⟨v2,rfl,?_,H2.out.2⟩;have h2:=H2.out.1;have h3:=H.out.2;rw[gV,aH,cm,h3,de (cg n)];simpa using h2)
theorem tH (hn:n=P.length) (hP:P.length≤100000) (hr:Rd w w.heap.size 3 (.slice A n c) n (fm P)) (hb:∀x∈P,x.tx.length≤100000) (ht:t.length≤100000) :
    Calls Tryz.prog 174 #[.slice A n c,.string ⟨t.toArray⟩,.bool fr] w fun e w'=>∃v',e=.returned v'∧w'.ownsRow w.heap.size 142 3 v' (tN P t fr).length (fm (tN P t fr))∧Below w.heap.size w w':=by
  by_cases h:P.length=0∨fr=true
  ·exact Fw P t fr c n A w hn hP hr h
  ·obtain⟨k,rfl⟩:∃k,n=k+1:=⟨n-1,by omega⟩;obtain rfl:fr=false:=by cases fr;rfl;exact absurd (.inr rfl) h
   exact Fv P t c k A w hn.symm hP hr hb ht
end Go.Proofs.YtcagfamdoaoimaaGreatDoor
