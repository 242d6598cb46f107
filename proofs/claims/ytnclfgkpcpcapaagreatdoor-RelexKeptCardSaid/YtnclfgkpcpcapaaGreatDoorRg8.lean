/- quillwortref08.find: the part that begins at a place. -/
import Derived.Test.YtnclfgkpcpcapaaGreatDoorFl8
import Derived.Test.YtnclfgkpcpcapaaGreatDoorRfy
import Derived.Test.YtnclfgkpcpcapaaGreatDoorPk0
import Derived.Test.YtnclfgkpcpcapaaGreatDoorLa9
import Derived.Deep.DeepCutAuto
import Derived.Deep.CutBlock
namespace Go.Proofs.YtnclfgkpcpcapaaGreatDoor
open Go.RowKit
set_option linter.unusedVariables false
set_option linter.unusedSimpArgs false
set_option maxRecDepth 100000
def findV (o:Option Prt):Value:=match o with
  | none=>.tuple #[.agg #[.int .i64 0,.int .i64 0,.int .i64 0,.int .i64 0,.bool false],.int .i64 0]
  | some q=>.tuple #[.agg #[.int .i64 q.mode,.int .i64 q.fr,.int .i64 (toP q),.int .i64 q.up,.bool q.op],.int .i64 1]
set_option maxHeartbeats 2000000 in
theorem find_r (L:List Prt) (x c n:Nat) (A:Option Addr) (w:World) (hL:L.length≤100000) (hn:n=L.length) (hr:Rd w w.heap.size 5 (.slice A n c) n (pcells L)) :
    Calls Tryz.prog 81 #[.slice A n c,.int .i64 (x:Int)] w fun e w'=>e=.returned (findV (findP L x))∧Below w.heap.size w w':=by
  subst hn
  have H:=Lib.hid hr
  clear hr
  go_enter Tryz.func81,Tryz.ntmps81
  go_wp2_with fail
  go_loopw [6] (fun i wx=>∃k:Nat,k≤L.length∧i=.int .i64 k∧(L.take k).find? (fun q=>q.fr==(x:Int))=none∧wx=w.alloc (.cells #[.int .i64 0,.int .i64 0,.int .i64 0,.int .i64 0,.bool false] 136)) (fun i _=>L.length-(intOf i).toNat)
  case atStart=>exact⟨0,by omega,rfl,rfl,rfl⟩
  case round=>
    obtain⟨k,hk,rfl,hno,rfl⟩:=hrel
    have hw1:Below w.heap.size w (w.alloc (.cells #[.int .i64 0,.int .i64 0,.int .i64 0,.int .i64 0,.bool false] 136)):=Below.alloc (Below.refl _ _) (Nat.le_refl _) _
    by_cases hlt:k<L.length
    ·have u1:(k:Int)<(L.length:Int):=by omega
     have u2:(0:Int)≤(k:Int):=by omega
     obtain⟨q,hq⟩:∃q,L[k]? = some q:=⟨_,List.getElem?_eq_getElem hlt⟩
     obtain⟨g,o,rfl,hg,y0,y1,y2,y3,y4⟩:=rd_part (H.out.keep hw1 (Nat.le_refl _)) hq
     have hgw:¬g=w.heap.size:=by omega
     have htk:(L.take (k+1)).find? (fun q=>q.fr==(x:Int))=if (q.fr==(x:Int))=true then some q else none:=by
       obtain⟨h1,h2⟩:=List.getElem?_eq_some_iff.1 hq
       rw[List.take_succ_eq_append_getElem h1,h2,List.find?_append,hno]
       by_cases hx:(q.fr==(x:Int))=true
       ·rw[if_pos hx];simp[List.find?_cons,hx]
       ·rw[if_neg hx];simp[List.find?_cons,hx]
     have HQ:=Lib.hid (And.intro htk hw1)
     clear htk hw1 hno hq
     cases hx:(q.fr==(x:Int))
     ·have HX:=Lib.hid hx
      go_wp2_with fail
      exact⟨⟨k+1,by omega,by go_num,by rw[HQ.out.1,if_neg (by rw[HX.out];simp)],by first|rfl|trivial⟩,by simp[intOf];omega⟩
     ·have HX:=Lib.hid hx
      have e:findP L x=some q:=by
        unfold findP
        have h1:=HQ.out.1
        rw[if_pos HX.out] at h1
        rw[←List.take_append_drop (k+1) L,List.find?_append,h1]
        rfl
      have HE:=Lib.hid e
      clear e
      go_wp2_with fail
      exact bodyPost_ret (v:=findV (some q)) (by simp[results,Tryz.results81,go_sem,findV]) rfl ⟨by rw[HE.out],Below.alloc (Below.refl _ _) (Nat.le_refl _) _⟩
    ·obtain rfl:k=L.length:=by omega
     rw[List.take_of_length_le (Nat.le_refl _)] at hno
     have HQ:=Lib.hid (And.intro hno hw1)
     clear hno hw1
     go_wp2_with fail
     exact bodyPost_ret (v:=findV none) (by simp[results,Tryz.results81,go_sem,findV]) rfl ⟨by unfold findP;rw[HQ.out.1],HQ.out.2⟩
end Go.Proofs.YtnclfgkpcpcapaaGreatDoor
namespace Go.Proofs.YtnclfgkpcpcapaaGreatDoor
open Go.RowKit
set_option linter.unusedVariables false
set_option linter.unusedSimpArgs false
set_option maxRecDepth 100000
theorem plR_snoc (P:List Pc) (t:List UInt8) (fr:Bool) (h:P.length=0∨fr=true):plR P t fr=P++[⟨false,false,t⟩]:=by
  unfold plR
  rcases h with h|h
  ·obtain rfl:=List.eq_nil_of_length_eq_zero h
   rfl
  ·subst h
   cases P.getLast? <;> rfl
theorem plR_last (P:List Pc) (t:List UInt8) (n:Nat) (x:Pc) (hn:P.length=n+1) (hx:P[n]? = some x):plR P t false=P.take n++[⟨false,false,x.tx++t⟩]:=by
  unfold plR
  have h1:P.getLast? = some x:=by rw[List.getLast?_eq_getElem?,hn,Nat.add_sub_cancel];exact hx
  rw[h1]
  have h2:P.dropLast=P.take n:=by rw[List.dropLast_eq_take,hn,Nat.add_sub_cancel]
  simp only[h2,if_true]
set_option maxHeartbeats 2000000 in
theorem plain8_a (P:List Pc) (t:List UInt8) (fr:Bool) (c n:Nat) (A:Option Addr) (w:World) (hn:n=P.length) (hP:P.length≤100000) (hr:Rd w w.heap.size 3 (.slice A n c) n (pccs P)) (h:P.length=0∨fr=true) :
    Calls Tryz.prog 82 #[.slice A n c,.string ⟨t.toArray⟩,.bool fr] w fun e w'=>∃v',e=.returned v'∧w'.ownsRow w.heap.size 102 3 v' (plR P t fr).length (pccs (plR P t fr))∧Below w.heap.size w w':=by
  rw[plR_snoc P t fr h]
  obtain⟨i0,hi0,hz0,hz1,hz2⟩:=info_parts Tryz.infoPiece
  have H:=Lib.hid (And.intro hr hn)
  have hP':n≤100000:=by omega
  have h':n=0∨fr=true:=by rcases h with h|h;exact .inl (by omega);exact .inr h
  clear hr hn hP h
  by_cases hn0:n=0
  ·have hg:decide ((0:Int)<(n:Int))=false:=by simp;omega
   clear h'
   go_enter Tryz.func82,Tryz.ntmps82
   go_wp2_with (first
     | (at_builtin
        refine wpList_append_rd rfl (.tmp 35) (.tmp 36) 99 rfl w.heap.size 102 i0 _ 3 24 Tryz.underlying99 hi0 hz0 hz1 hz2 rfl (by decide) (.slice (some ⟨w.heap.size,0,none⟩) 0 0) 0 [] rfl (own_empty w _ _ _ (Nat.le_refl _)) (.slice A n c) n w.heap.size (pccs P) rfl (H.out.1.keep (by go_grown) (Nat.le_refl _)) (one_pcs P) (by unfold maxLen;omega) (by omega) (by simp) ?_
        intro v1 w1 hown1 hg1 hv1
        have hb1:Below w.heap.size w w1:=((Below.refl _ w).alloc (Nat.le_refl _) _).grown hg1 (by simp) (by intro k hk;simp[Value.ownBlock] at hk;omega)
        obtain⟨A1,n1,c1,rfl⟩:=own_form' hown1
        have H1:=Lib.hid (And.intro hown1 hb1)
        clear hown1 hg1 hv1 hb1)
     | (at_builtin
        refine wpList_append_rd rfl (.tmp 37) (.tmp 40) 99 rfl w.heap.size 102 i0 _ 3 24 Tryz.underlying99 hi0 hz0 hz1 hz2 rfl (by decide) (.slice A1 n1 c1) (0+n) ([]++pccs P) rfl (H1.out.1.alloc _) (.slice (some ⟨w1.heap.size,0,none⟩) 1 1) 1 (w1.heap.size+1) (pccs [⟨false,false,t⟩]) rfl (rd_new w1 (pccs [⟨false,false,t⟩]) 102 3 1 rfl (by omega)) (one_pcs _) (by unfold maxLen;omega) (by omega) (by have:=H1.out.2.size;simp;omega) ?_
        intro v2 w2 hown2 hg2 hv2
        have hb2:Below w.heap.size w w2:=(H1.out.2.alloc H1.out.2.size _).grown hg2 (by have:=H1.out.2.size;simp;omega) (fun k hk=>(H1.out.1.lt k hk).1)
        have H2:=Lib.hid (And.intro hown2 hb2)
        clear hown2 hg2 hv2 hb2))
   go_ret
   refine⟨v2,rfl,?_,H2.out.2⟩
   have:=H2.out.1
   rw[pccs_app,List.length_append,←H.out.2]
   simpa using this
  ·obtain rfl:fr=true:=by rcases h' with h|h;omega;exact h
   have hg:(0:Int)<(n:Int):=by omega
   clear h'
   go_enter Tryz.func82,Tryz.ntmps82
   go_wp2_with (first
     | (at_builtin
        refine wpList_append_rd rfl (.tmp 35) (.tmp 36) 99 rfl w.heap.size 102 i0 _ 3 24 Tryz.underlying99 hi0 hz0 hz1 hz2 rfl (by decide) (.slice (some ⟨w.heap.size,0,none⟩) 0 0) 0 [] rfl (own_empty w _ _ _ (Nat.le_refl _)) (.slice A n c) n w.heap.size (pccs P) rfl (H.out.1.keep (by go_grown) (Nat.le_refl _)) (one_pcs P) (by unfold maxLen;omega) (by omega) (by simp) ?_
        intro v1 w1 hown1 hg1 hv1
        have hb1:Below w.heap.size w w1:=((Below.refl _ w).alloc (Nat.le_refl _) _).grown hg1 (by simp) (by intro k hk;simp[Value.ownBlock] at hk;omega)
        obtain⟨A1,n1,c1,rfl⟩:=own_form' hown1
        have H1:=Lib.hid (And.intro hown1 hb1)
        clear hown1 hg1 hv1 hb1)
     | (at_builtin
        refine wpList_append_rd rfl (.tmp 37) (.tmp 40) 99 rfl w.heap.size 102 i0 _ 3 24 Tryz.underlying99 hi0 hz0 hz1 hz2 rfl (by decide) (.slice A1 n1 c1) (0+n) ([]++pccs P) rfl (H1.out.1.alloc _) (.slice (some ⟨w1.heap.size,0,none⟩) 1 1) 1 (w1.heap.size+1) (pccs [⟨false,false,t⟩]) rfl (rd_new w1 (pccs [⟨false,false,t⟩]) 102 3 1 rfl (by omega)) (one_pcs _) (by unfold maxLen;omega) (by omega) (by have:=H1.out.2.size;simp;omega) ?_
        intro v2 w2 hown2 hg2 hv2
        have hb2:Below w.heap.size w w2:=(H1.out.2.alloc H1.out.2.size _).grown hg2 (by have:=H1.out.2.size;simp;omega) (fun k hk=>(H1.out.1.lt k hk).1)
        have H2:=Lib.hid (And.intro hown2 hb2)
        clear hown2 hg2 hv2 hb2))
   go_ret
   refine⟨v2,rfl,?_,H2.out.2⟩
   have:=H2.out.1
   rw[pccs_app,List.length_append,←H.out.2]
   simpa using this
set_option maxHeartbeats 2000000 in
theorem plain8_b (P:List Pc) (t:List UInt8) (c n:Nat) (A:Option Addr) (w:World) (hn:P.length=n+1) (hP:P.length≤100000) (hr:Rd w w.heap.size 3 (.slice A (n+1) c) (n+1) (pccs P)) (hb:∀x∈P,x.tx.length≤100000) (ht:t.length≤100000) :
    Calls Tryz.prog 82 #[.slice A (n+1) c,.string ⟨t.toArray⟩,.bool false] w fun e w'=>∃v',e=.returned v'∧w'.ownsRow w.heap.size 102 3 v' (plR P t false).length (pccs (plR P t false))∧Below w.heap.size w w':=by
  obtain⟨x,hx⟩:∃x,P[n]? = some x:=⟨_,List.getElem?_eq_getElem (by omega)⟩
  rw[plR_last P t n x hn hx]
  obtain⟨i0,hi0,hz0,hz1,hz2⟩:=info_parts Tryz.infoPiece
  obtain⟨g,o,rfl,hg,y0,y1,y2⟩:=rd_pc hr hx hn.symm
  have hr2:=hr.take (k:=n) (by omega)
  rw[pccs_take P n (by omega)] at hr2
  have hle:n+1≤c:=by obtain⟨_,_,_,e,h,_⟩:=hr;cases e;exact h
  have hxl:=hb x (List.mem_of_getElem? hx)
  have hxt:¬9223372036854775807<x.tx.length+t.length:=by omega
  have H:=Lib.hid (And.intro hr2 hn)
  have hn1:n≤100000:=by omega
  clear hr hr2 hx hn hP hb ht hxl
  have u1:(0:Int)<(n:Int)+1:=by omega
  have u2:(n:Int)<(n:Int)+1:=by omega
  have u3:(0:Int)≤(n:Int):=by omega
  have u4:(n:Int)≤(c:Int):=by omega
  have u5:IntKind.i64.wrap (n:Int)=(n:Int):=IntWalk.i64_in _ (by omega)
  go_enter Tryz.func82,Tryz.ntmps82
  go_upto_region 4 with fail
  refine gen1 fun W hbW hkW hsW=>?_
  obtain⟨_,_,c2,_⟩:=hkW.three
  have hcat:ByteArray.mk x.tx.toArray++ByteArray.mk t.toArray=⟨(x.tx++t).toArray⟩:=ba_append _ _
  have hrW:=(H.out.1.keep hbW (Nat.le_refl _)).mono hbW.size
  have hlW:=hkW.lt
  have HW:=Lib.hid (And.intro hrW (And.intro hbW (And.intro hkW hsW)))
  clear hrW hbW hkW hsW y0 y1 y2 hg
  go_wp2_with fail
  go_region_law (first
    | (refine step_append_rd rfl (.tmp 22) (.tmp 26) 99 rfl w.heap.size 102 i0 _ 3 24 Tryz.underlying99 hi0 hz0 hz1 hz2 rfl (by decide) (.slice (some ⟨W.heap.size,0,none⟩) 0 0) 0 [] rfl (own_drew (own_empty W _ _ _ HW.out.2.1.size)) (.slice (some ⟨g,o,none⟩) n c) n W.heap.size (pccs (P.take n)) rfl (Rd.drew (HW.out.1.alloc (Nat.le_refl _) _)) (one_pcs _) (by unfold maxLen;omega) (by omega) (by have:=HW.out.2.1.size;simp;omega) ?_
       intro v1 w1 hown1 hg1 hv1
       have hb1:Below w.heap.size w w1:=Below.grown (Below.drew (HW.out.2.1.alloc HW.out.2.1.size _)) hg1 (by have:=HW.out.2.1.size;simp;omega) (by intro k hk;simp[Value.ownBlock] at hk;have:=HW.out.2.1.size;omega)
       have hk1:=((HW.out.2.2.1.alloc (.cells #[] 102)).drew).grown hg1 (by have:=HW.out.2.2.2;simp[Value.ownBlock];omega)
       obtain⟨_,_,c3,_⟩:=hk1.three
       have H1:=Lib.hid (And.intro hown1 (And.intro hb1 trivial))
       clear hown1 hg1 hv1 hb1 hk1)
    | (refine step_append_rd rfl (.tmp 22) (.tmp 26) 99 rfl w.heap.size 102 i0 _ 3 24 Tryz.underlying99 hi0 hz0 hz1 hz2 rfl (by decide) (.slice (some ⟨W.heap.size,0,none⟩) 0 0) 0 [] rfl (own_drew ((own_empty W _ _ _ HW.out.2.1.size).alloc _)) (.slice (some ⟨g,o,none⟩) n c) n W.heap.size (pccs (P.take n)) rfl (Rd.drew ((HW.out.1.alloc (Nat.le_refl _) _).alloc (by simp) _)) (one_pcs _) (by unfold maxLen;omega) (by omega) (by have:=HW.out.2.1.size;simp;omega) ?_
       intro v1 w1 hown1 hg1 hv1
       have hb1:Below w.heap.size w w1:=Below.grown (Below.drew ((HW.out.2.1.alloc HW.out.2.1.size _).alloc (by have:=HW.out.2.1.size;simp;omega) _)) hg1 (by have:=HW.out.2.1.size;simp;omega) (by intro k hk;simp[Value.ownBlock] at hk;have:=HW.out.2.1.size;omega)
       have hk1:=(((HW.out.2.2.1.alloc (.cells #[] 102)).alloc (.cells (pccs [⟨false,false,x.tx++t⟩]).toArray 102)).drew).grown hg1 (by have:=HW.out.2.2.2;simp[Value.ownBlock];omega)
       obtain⟨_,_,c3,_⟩:=hk1.three
       have hs1:=(rd_new (W.alloc (.cells #[] 102)) (pccs [⟨false,false,x.tx++t⟩]) 102 3 1 rfl (by omega))
       have hs2:=(hs1:Rd _ _ 3 _ 1 (pccs [⟨false,false,x.tx++t⟩]))
       have hs3:=(Rd.drew hs2).grown hg1 (by simp[Value.ownBlock])
       have H1:=Lib.hid (And.intro hown1 (And.intro hb1 hs3))
       clear hown1 hg1 hv1 hb1 hk1 hs1 hs2 hs3)
    | (refine step_append_rd rfl (.tmp 22) (.tmp 26) 99 rfl w.heap.size 102 i0 _ 3 24 Tryz.underlying99 hi0 hz0 hz1 hz2 rfl (by decide) (.slice (some ⟨W.heap.size+1,0,none⟩) 0 0) 0 [] rfl (own_drew (by have:=own_empty (W.alloc (.cells (pccs [⟨false,false,x.tx++t⟩]).toArray 102)) w.heap.size 102 3 (by have:=HW.out.2.1.size;simp;omega);rwa [World.size_alloc] at this)) (.slice (some ⟨g,o,none⟩) n c) n W.heap.size (pccs (P.take n)) rfl (Rd.drew ((HW.out.1.alloc (Nat.le_refl _) _).alloc (by simp) _)) (one_pcs _) (by unfold maxLen;omega) (by omega) (by have:=HW.out.2.1.size;simp;omega) ?_
       intro v1 w1 hown1 hg1 hv1
       have hb1:Below w.heap.size w w1:=Below.grown (Below.drew ((HW.out.2.1.alloc HW.out.2.1.size _).alloc (by have:=HW.out.2.1.size;simp;omega) _)) hg1 (by have:=HW.out.2.1.size;simp;omega) (by intro k hk;simp[Value.ownBlock] at hk;have:=HW.out.2.1.size;omega)
       have hk1:=(((HW.out.2.2.1.alloc (.cells (pccs [⟨false,false,x.tx++t⟩]).toArray 102)).alloc (.cells #[] 102)).drew).grown hg1 (by have:=HW.out.2.2.2;simp[Value.ownBlock];omega)
       obtain⟨_,_,c3,_⟩:=hk1.three
       have hs1:=(rd_new W (pccs [⟨false,false,x.tx++t⟩]) 102 3 1 rfl (by omega))
       have hs2:=(hs1.alloc (by simp) (.cells #[] 102):Rd _ _ 3 _ 1 (pccs [⟨false,false,x.tx++t⟩]))
       have hs3:=(Rd.drew hs2).grown hg1 (by simp[Value.ownBlock])
       have H1:=Lib.hid (And.intro hown1 (And.intro hb1 hs3))
       clear hown1 hg1 hv1 hb1 hk1 hs1 hs2 hs3)
    | (refine step_append_rd rfl (.tmp 27) (.tmp 33) 99 rfl w.heap.size 102 i0 _ 3 24 Tryz.underlying99 hi0 hz0 hz1 hz2 rfl (by decide) v1 (0+n) ([]++pccs (P.take n)) rfl (H1.out.1.alloc _) (.slice (some ⟨w1.heap.size,0,none⟩) 1 1) 1 _ (pccs [⟨false,false,x.tx++t⟩]) rfl (rd_new w1 (pccs [⟨false,false,x.tx++t⟩]) 102 3 1 rfl (by omega)) (one_pcs _) (by unfold maxLen;omega) (by omega) (by have:=H1.out.2.1.size;simp;omega) ?_
       intro v2 w2 hown2 hg2 hv2
       have hb2:Below w.heap.size w w2:=Below.grown (H1.out.2.1.alloc H1.out.2.1.size _) hg2 (by have:=H1.out.2.1.size;simp;omega) (fun k hk=>(H1.out.1.lt k hk).1)
       have H2:=Lib.hid (And.intro hown2 hb2)
       clear hown2 hg2 hv2 hb2)
    | (refine step_append_rd rfl (.tmp 27) (.tmp 33) 99 rfl w.heap.size 102 i0 _ 3 24 Tryz.underlying99 hi0 hz0 hz1 hz2 rfl (by decide) v1 (0+n) ([]++pccs (P.take n)) rfl H1.out.1 (.slice (some ⟨W.heap.size+1,0,none⟩) 1 1) 1 _ (pccs [⟨false,false,x.tx++t⟩]) rfl (by simpa using H1.out.2.2) (one_pcs _) (by unfold maxLen;omega) (by omega) (by have:=H1.out.2.1.size;simp;omega) ?_
       intro v2 w2 hown2 hg2 hv2
       have hb2:Below w.heap.size w w2:=Below.grown H1.out.2.1 hg2 (by have:=H1.out.2.1.size;simp;omega) (fun k hk=>(H1.out.1.lt k hk).1)
       have H2:=Lib.hid (And.intro hown2 hb2)
       clear hown2 hg2 hv2 hb2)
    | (refine step_append_rd rfl (.tmp 27) (.tmp 33) 99 rfl w.heap.size 102 i0 _ 3 24 Tryz.underlying99 hi0 hz0 hz1 hz2 rfl (by decide) v1 (0+n) ([]++pccs (P.take n)) rfl H1.out.1 (.slice (some ⟨W.heap.size,0,none⟩) 1 1) 1 _ (pccs [⟨false,false,x.tx++t⟩]) rfl H1.out.2.2 (one_pcs _) (by unfold maxLen;omega) (by omega) (by have:=H1.out.2.1.size;simp;omega) ?_
       intro v2 w2 hown2 hg2 hv2
       have hb2:Below w.heap.size w w2:=Below.grown H1.out.2.1 hg2 (by have:=H1.out.2.1.size;simp;omega) (fun k hk=>(H1.out.1.lt k hk).1)
       have H2:=Lib.hid (And.intro hown2 hb2)
       clear hown2 hg2 hv2 hb2))
  all_goals (
    go_wp2_with fail
    go_ret
    refine⟨v2,rfl,?_,H2.out.2⟩
    have h2:=H2.out.1
    have h3:=H.out.2
    rw[pccs_app,List.length_append,List.length_take,h3,Nat.min_eq_left (Nat.le_succ n)]
    simpa using h2)
theorem plain8_r (P:List Pc) (t:List UInt8) (fr:Bool) (c n:Nat) (A:Option Addr) (w:World) (hn:n=P.length) (hP:P.length≤100000) (hr:Rd w w.heap.size 3 (.slice A n c) n (pccs P)) (hb:∀x∈P,x.tx.length≤100000) (ht:t.length≤100000) :
    Calls Tryz.prog 82 #[.slice A n c,.string ⟨t.toArray⟩,.bool fr] w fun e w'=>∃v',e=.returned v'∧w'.ownsRow w.heap.size 102 3 v' (plR P t fr).length (pccs (plR P t fr))∧Below w.heap.size w w':=by
  by_cases h:P.length=0∨fr=true
  ·exact plain8_a P t fr c n A w hn hP hr h
  ·obtain⟨k,rfl⟩:∃k,n=k+1:=⟨n-1,by omega⟩
   obtain rfl:fr=false:=by cases fr;rfl;exact absurd (.inr rfl) h
   exact plain8_b P t c k A w hn.symm hP hr hb ht
end Go.Proofs.YtnclfgkpcpcapaaGreatDoor
