/- quillwortlaw09.SameTokens on two equal rows. -/
import Derived.Test.YtnclfgkpcpcapaaGreatDoorEc9
import Derived.Test.YtnclfgkpcpcapaaGreatDoorSa9
import Derived.Test.YtnclfgkpcpcapaaGreatDoorSt9
namespace Go.Proofs.YtnclfgkpcpcapaaGreatDoor
open Go.RowKit
set_option linter.unusedVariables false
set_option linter.unusedSimpArgs false
set_option maxRecDepth 100000
theorem tkc_len (t:Tk):(tkc t).length=4:=rfl
set_option maxHeartbeats 1000000 in
theorem samet_m (ts:List Tk) (A A':Option Addr) (c c':Nat) (w:World) (hl:ts.length≤100000) (h1:Rd w w.heap.size 4 (.slice A ts.length c) ts.length (tkcs ts)) (h2:Rd w w.heap.size 4 (.slice A' ts.length c') ts.length (tkcs ts)) :
    Calls Tryz.prog 11 #[.slice A ts.length c,.slice A' ts.length c'] w fun e w'=>e=.returned (.bool true)∧Below w.heap.size w w':=by
  have H0:=Lib.hid (And.intro h1 h2)
  clear h1 h2
  go_enter Tryz.func11,Tryz.ntmps11
  go_wp2
  go_loopw [5] (fun i wr=>∃k:Nat,k≤ts.length∧i=.int .i64 k∧Below w.heap.size w wr) (fun i _=>ts.length-(intOf i).toNat)
  case atStart=>exact⟨0,Nat.zero_le _,rfl,Below.refl _ _⟩
  case round=>
    obtain⟨k,hk,rfl,hb⟩:=hrel
    by_cases hlt:k<ts.length
    ·have u1:(k:Int)<(ts.length:Int):=by omega
     have u2:(0:Int)≤(k:Int):=by omega
     obtain⟨t,ht⟩:∃t,ts[k]? = some t:=⟨_,List.getElem?_eq_getElem hlt⟩
     obtain⟨g,o,rfl,_,hc⟩:=rd_sat tkc_len (H0.out.1.keep hb (Nat.le_refl _)) ht rfl
     obtain⟨g',o',rfl,_,hc'⟩:=rd_sat tkc_len (H0.out.2.keep hb (Nat.le_refl _)) ht rfl
     have y0:wr.cell? ⟨g,o+k*4,none⟩=some (.int .i64 (t.kd:Int)):=hc 0 _ rfl
     have y1:wr.cell? ⟨g,o+k*4+1,none⟩=some (.int .i64 (t.fr:Int)):=hc 1 _ rfl
     have y2:wr.cell? ⟨g,o+k*4+2,none⟩=some (.int .i64 (t.to:Int)):=hc 2 _ rfl
     have y3:wr.cell? ⟨g,o+k*4+3,none⟩=some (.bool t.op):=hc 3 _ rfl
     have z0:wr.cell? ⟨g',o'+k*4,none⟩=some (.int .i64 (t.kd:Int)):=hc' 0 _ rfl
     have z1:wr.cell? ⟨g',o'+k*4+1,none⟩=some (.int .i64 (t.fr:Int)):=hc' 1 _ rfl
     have z2:wr.cell? ⟨g',o'+k*4+2,none⟩=some (.int .i64 (t.to:Int)):=hc' 2 _ rfl
     have z3:wr.cell? ⟨g',o'+k*4+3,none⟩=some (.bool t.op):=hc' 3 _ rfl
     have HB:=Lib.hid hb
     clear hb hc hc' ht
     go_wp2_with fail
     go_quiet (fail)
     go_wp2_with fail
     exact⟨⟨k+1,by omega,by go_num,below_drewN' HB.out _⟩,by simp[intOf]<;>omega⟩
    ·obtain rfl:k=ts.length:=by omega
     have HB:=Lib.hid hb
     clear hb
     go_wp2_with fail
     go_ret
     exact⟨rfl,HB.out⟩
end Go.Proofs.YtnclfgkpcpcapaaGreatDoor
namespace Go.Proofs.YtnclfgkpcpcapaaGreatDoor
open Go.RowKit
set_option linter.unusedVariables false
set_option linter.unusedSimpArgs false
set_option maxRecDepth 100000
theorem dcl_len (x:Dl):(dcl x).length=2:=rfl
theorem take_same {α:Type} {L M:List α} {k:Nat} {x:α} (h:L.take k=M.take k) (hx:L[k]? = some x) (hy:M[k]? = some x):L.take (k+1)=M.take (k+1):=by
  rw[List.take_add_one,List.take_add_one,h,hx,hy]
set_option maxHeartbeats 1000000 in
theorem equal9_m (L M:List Dl) (A A':Option Addr) (c c':Nat) (w:World) (hL:Rd w w.heap.size 2 (.slice A L.length c) L.length (dcls L)) (hM:Rd w w.heap.size 2 (.slice A' M.length c') M.length (dcls M)) (hl:L.length≤9223372036854775807) (hl':M.length≤9223372036854775807) :
    Calls Tryz.prog 29 #[.slice A L.length c,.slice A' M.length c'] w fun e w'=>e=.returned (.bool (decide (L=M)))∧Below w.heap.size w w':=by
  by_cases hlen:L.length=M.length
  ·have e1:((L.length:Int)==(M.length:Int))=true:=by rw[beq_iff_eq];omega
   have e2:((L.length:Int)!=(M.length:Int))=false:=by rw[bne_eq_false_iff_eq];omega
   have HE:=Lib.hid hlen
   have H0:=Lib.hid (And.intro hL hM)
   clear hL hM hlen
   go_enter Tryz.func29,Tryz.ntmps29
   go_wp2
   go_loopw [5,13] (fun s i wr=>∃k:Nat,k≤L.length∧i=.int .i64 k∧L.take k=M.take k∧Below w.heap.size w wr) (fun s i _=>L.length-(intOf i).toNat)
   case atStart=>exact⟨0,Nat.zero_le _,rfl,by simp,Below.refl _ _⟩
   case round=>
     obtain⟨k,hk,rfl,hp,hb⟩:=hrel
     by_cases hlt:k<L.length
     ·have u1:(k:Int)<(L.length:Int):=by omega
      have u2:(0:Int)≤(k:Int):=by omega
      have u3:(k:Int)<(M.length:Int):=by have:=HE.out;omega
      obtain⟨⟨xt,xb⟩,hx⟩:∃x,L[k]? = some x:=⟨_,List.getElem?_eq_getElem hlt⟩
      obtain⟨⟨yt,yb⟩,hy⟩:∃x,M[k]? = some x:=⟨_,List.getElem?_eq_getElem (by rw[←HE.out];exact hlt)⟩
      obtain⟨g,o,rfl,_,hc⟩:=rd_sat dcl_len (H0.out.1.keep hb (Nat.le_refl _)) hx rfl
      obtain⟨g',o',rfl,_,hc'⟩:=rd_sat dcl_len (H0.out.2.keep hb (Nat.le_refl _)) hy rfl
      have y0:wr.cell? ⟨g,o+k*2,none⟩=some (.string ⟨xt.toArray⟩):=hc 0 _ rfl
      have y1:wr.cell? ⟨g,o+k*2+1,none⟩=some (.bool xb):=hc 1 _ rfl
      have z0:wr.cell? ⟨g',o'+k*2,none⟩=some (.string ⟨yt.toArray⟩):=hc' 0 _ rfl
      have z1:wr.cell? ⟨g',o'+k*2+1,none⟩=some (.bool yb):=hc' 1 _ rfl
      have HP:=Lib.hid (And.intro hp (And.intro hx (And.intro hy hb)))
      clear hp hx hy hb hc hc'
      by_cases ht:xt=yt
      ·subst ht
       by_cases hbb:xb=yb
       ·subst hbb
        go_wp2_with fail
        go_quiet (fail)
        go_wp2_with fail
        exact⟨⟨k+1,by omega,by go_num,take_same HP.out.1 HP.out.2.1 HP.out.2.2.1,below_drewN' HP.out.2.2.2 _⟩,by simp[intOf];omega⟩
       ·have q1:(xb==yb)=false:=by simpa using hbb
        go_wp2_with fail
        go_quiet (fail)
        go_wp2
        go_ret
        refine⟨ret_bool ?_,below_drewN' HP.out.2.2.2 _⟩
        symm
        rw[decide_eq_false_iff_not]
        intro h
        have:=HP.out.2.1
        rw[h,HP.out.2.2.1] at this
        simp at this
        exact hbb this.symm
      ·have q1:(xt==yt)=false:=by simpa using ht
       go_wp2_with fail
       go_quiet (fail)
       go_wp2
       go_ret
       refine⟨ret_bool ?_,below_drewN' HP.out.2.2.2 _⟩
       symm
       rw[decide_eq_false_iff_not]
       intro h
       have:=HP.out.2.1
       rw[h,HP.out.2.2.1] at this
       simp at this
       exact ht this.1.symm
     ·obtain rfl:k=L.length:=by omega
      have HP:=Lib.hid (And.intro hp hb)
      clear hp hb
      go_wp2_with fail
      go_ret
      refine⟨ret_bool ?_,HP.out.2⟩
      symm
      rw[decide_eq_true_eq]
      have:=HP.out.1
      rw[List.take_length,HE.out,List.take_length] at this
      exact this
  ·have e1:((L.length:Int)==(M.length:Int))=false:=by rw[beq_eq_false_iff_ne];omega
   have e2:((L.length:Int)!=(M.length:Int))=true:=by rw[bne_iff_ne];omega
   have hne:decide (L=M)=false:=by rw[decide_eq_false_iff_not];rintro rfl;exact hlen rfl
   rw[hne]
   clear hne hlen hL hM
   go_enter Tryz.func29,Tryz.ntmps29
   go_wp2
   go_ret
   exact⟨rfl,Below.refl _ _⟩
def sameL (X Y:Lx):Bool:=decide (X.aw=Y.aw)&&decide (X.bd=Y.bd)&&decide (X.pd=Y.pd)
theorem sameL_iff (X Y:Lx):sameL X Y=true↔X=Y:=by
  obtain⟨a,b,c⟩:=X
  obtain⟨a',b',c'⟩:=Y
  simp[sameL]
  constructor
  ·rintro ⟨⟨h1,h2⟩,h3⟩;exact⟨h1,h3,h2⟩
  ·rintro ⟨h1,h2,h3⟩;exact⟨⟨h1,h3⟩,h2⟩
set_option maxHeartbeats 1000000 in
theorem same9_m (X Y:Lx) (A A':Option Addr) (c c':Nat) (w:World) (hL:Rd w w.heap.size 2 (.slice A X.pd.length c) X.pd.length (dcls X.pd)) (hM:Rd w w.heap.size 2 (.slice A' Y.pd.length c') Y.pd.length (dcls Y.pd)) (hl:X.pd.length≤9223372036854775807) (hl':Y.pd.length≤9223372036854775807) :
    Calls Tryz.prog 18 #[.agg #[.int .i64 X.aw,.slice A X.pd.length c,.bool X.bd],.agg #[.int .i64 Y.aw,.slice A' Y.pd.length c',.bool Y.bd]] w fun e w'=>e=.returned (.bool (sameL X Y))∧Below w.heap.size w w':=by
  obtain⟨xa,L,xb⟩:=X
  obtain⟨ya,M,yb⟩:=Y
  have hs:∀b:Bool,decide (L=M)=b→xa=ya→xb=yb→sameL ⟨xa,L,xb⟩ ⟨ya,M,yb⟩=b:=by
    rintro b hb rfl rfl;simp[sameL,hb]
  have hs2:xa≠ya∨xb≠yb→sameL ⟨xa,L,xb⟩ ⟨ya,M,yb⟩=false:=by
    rintro (h|h)<;>simp[sameL,h]
  have H0:=Lib.hid (And.intro hL (And.intro hM (And.intro hl (And.intro hl' (And.intro hs hs2)))))
  clear hL hM hl hl' hs hs2
  by_cases ha:xa=ya
  ·by_cases hb:xb=yb
   ·have q1:(xa==ya)=true:=by simpa using ha
    have q2:(xb==yb)=true:=by simpa using hb
    have HE:=Lib.hid (And.intro ha hb)
    clear ha hb
    go_enter Tryz.func18,Tryz.ntmps18
    go_wp2_with (go_at_call 29
                 refine(equal9_m L M A A' c c' _ ((H0.out.1.alloc (Nat.le_refl _) _).alloc (by simp) _ |>.mono (by simp;omega)) ((H0.out.2.1.alloc (Nat.le_refl _) _).alloc (by simp) _ |>.mono (by simp;omega)) H0.out.2.2.1 H0.out.2.2.2.1).mono ?_
                 rintro e w1 ⟨rfl,hb1⟩
                 have H1:=Lib.hid hb1
                 clear hb1)
    go_ret
    refine⟨ret_bool (H0.out.2.2.2.2.1 _ rfl HE.out.1 HE.out.2).symm,?_⟩
    exact(((Below.refl _ w).alloc (Nat.le_refl _) _).alloc (by simp) _).trans (H1.out.mono (by simp;omega))
   ·have q1:(xa==ya)=true:=by simpa using ha
    have q2:(xb==yb)=false:=by simpa using hb
    rw[H0.out.2.2.2.2.2 (.inr hb)]
    clear ha hb
    go_enter Tryz.func18,Tryz.ntmps18
    go_wp2
    go_ret
    exact⟨rfl,((Below.refl _ w).alloc (Nat.le_refl _) _).alloc (by simp) _⟩
  ·have q1:(xa==ya)=false:=by simpa using ha
   rw[H0.out.2.2.2.2.2 (.inl ha)]
   clear ha
   go_enter Tryz.func18,Tryz.ntmps18
   go_wp2
   go_ret
   exact⟨rfl,((Below.refl _ w).alloc (Nat.le_refl _) _).alloc (by simp) _⟩
set_option maxHeartbeats 1000000 in
theorem same9_rn (xa ya:Int) (xb yb:Bool) (L M:List Dl) (A A':Option Addr) (c c':Nat) (w:World)
    (hw3:(xa != ya)=true∨((xa != ya)=false∧(xb==yb)=false∧(xb != yb)=true)∨((xa != ya)=false∧(xb==yb)=true∧(xb != yb)=false∧((L.length:Int)!=(M.length:Int))=true)) :
    Calls Tryz.prog 22 #[.agg #[.int .i64 xa,.slice A L.length c,.bool xb],.agg #[.int .i64 ya,.slice A' M.length c',.bool yb]] w fun e w'=>e=.returned (.bool false)∧Below w.heap.size w w':=by
  rcases hw3 with q1|⟨q1,q2,q3⟩|⟨q1,q2,q3,q4⟩ <;>
  ·go_enter Tryz.func22,Tryz.ntmps22
   go_wp2
   go_ret
   exact⟨rfl,((Below.refl _ w).alloc (Nat.le_refl _) _).alloc (by simp) _⟩
set_option maxHeartbeats 1000000 in
theorem same9_r (X Y:Lx) (A A':Option Addr) (c c':Nat) (w:World) (hL:Rd w w.heap.size 2 (.slice A X.pd.length c) X.pd.length (dcls X.pd)) (hM:Rd w w.heap.size 2 (.slice A' Y.pd.length c') Y.pd.length (dcls Y.pd)) (hl:X.pd.length≤9223372036854775807) (hl':Y.pd.length≤9223372036854775807) :
    Calls Tryz.prog 22 #[.agg #[.int .i64 X.aw,.slice A X.pd.length c,.bool X.bd],.agg #[.int .i64 Y.aw,.slice A' Y.pd.length c',.bool Y.bd]] w fun e w'=>e=.returned (.bool (sameL X Y))∧Below w.heap.size w w':=by
  obtain⟨xa,L,xb⟩:=X
  obtain⟨ya,M,yb⟩:=Y
  have hs:∀b:Bool,decide (L=M)=b→xa=ya→xb=yb→sameL ⟨xa,L,xb⟩ ⟨ya,M,yb⟩=b:=by
    rintro b hb rfl rfl;simp[sameL,hb]
  have hs2:xa≠ya∨xb≠yb∨L≠M→sameL ⟨xa,L,xb⟩ ⟨ya,M,yb⟩=false:=by
    rintro (h|h|h)<;>simp[sameL,h]
  have H0:=Lib.hid (And.intro hL (And.intro hM (And.intro hl (And.intro hl' (And.intro hs hs2)))))
  clear hL hM hl hl' hs hs2
  by_cases hall:xa=ya∧xb=yb∧L.length=M.length
  ·obtain⟨ha,hb,hlen⟩:=hall
   have q1:(xa==ya)=true:=by simpa using ha
   have q2:(xb==yb)=true:=by simpa using hb
   have q1':(xa != ya)=false:=by simpa using ha
   have q2':(xb != yb)=false:=by simpa using hb
   have e1:((L.length:Int)==(M.length:Int))=true:=by rw[beq_iff_eq];omega
   have e2:((L.length:Int)!=(M.length:Int))=false:=by rw[bne_eq_false_iff_eq];omega
   have HE:=Lib.hid (And.intro ha (And.intro hb hlen))
   have hlm:L.length≤9223372036854775807:=H0.out.2.2.1
   clear ha hb hlen
   go_enter Tryz.func22,Tryz.ntmps22
   go_wp2
   obtain⟨w1,hw1⟩:∃w1,(w.alloc (.cells #[.int .i64 xa,.slice A L.length c,.bool xb] 45)).alloc (.cells #[.int .i64 ya,.slice A' M.length c',.bool yb] 45)=w1:=⟨_,rfl⟩
   have hsz:w1.heap.size=w.heap.size+2:=by rw[←hw1];simp
   have hb1:Below w.heap.size w w1:=by rw[←hw1];exact((Below.refl _ w).alloc (Nat.le_refl _) _).alloc (by simp) _
   have k1:Bk w1 w.heap.size 45 #[.int .i64 xa,.slice A L.length c,.bool xb]:=by rw[←hw1];exact(Bk.new w _ _).alloc _
   have k2:Bk w1 (w.heap.size+1) 45 #[.int .i64 ya,.slice A' M.length c',.bool yb]:=by rw[←hw1];exact bk_second w _ _ _ _
   have r1:Rd w1 w.heap.size 2 (.slice A L.length c) L.length (dcls L):=H0.out.1.keep hb1 (Nat.le_refl _)
   have r2:Rd w1 w.heap.size 2 (.slice A' M.length c') M.length (dcls M):=H0.out.2.1.keep hb1 (Nat.le_refl _)
   rw[hw1]
   clear hw1
   have H1:=Lib.hid (And.intro hsz (And.intro hb1 (And.intro k1 (And.intro k2 (And.intro r1 r2)))))
   clear hsz hb1 k1 k2 r1 r2
   go_loopw [5] (fun i wr=>∃k:Nat,k≤L.length∧i=.int .i64 k∧L.take k=M.take k∧Below w1.heap.size w1 wr) (fun i _=>L.length-(intOf i).toNat)
   case atStart=>exact⟨0,Nat.zero_le _,rfl,by simp,Below.refl _ _⟩
   case round=>
     obtain⟨k,hk,rfl,hp,hb⟩:=hrel
     have hlt1:w.heap.size<w1.heap.size:=by rw[H1.out.1];omega
     have hlt2:w.heap.size+1<w1.heap.size:=by rw[H1.out.1];omega
     have b1:=H1.out.2.2.1.below hb hlt1
     have b2:=H1.out.2.2.2.1.below hb hlt2
     have p1:wr.cell? ⟨w.heap.size,1,none⟩=some (.slice A L.length c):=by rw[b1.cell];rfl
     have p2:wr.cell? ⟨w.heap.size+1,1,none⟩=some (.slice A' M.length c'):=by rw[b2.cell];rfl
     clear b1 b2 hlt1 hlt2
     by_cases hlt:k<L.length
     ·have u1:(k:Int)<(L.length:Int):=by omega
      have u2:(0:Int)≤(k:Int):=by omega
      have u3:(k:Int)<(M.length:Int):=by have:=HE.out.2.2;omega
      obtain⟨⟨xt,xv⟩,hx⟩:∃x,L[k]? = some x:=⟨_,List.getElem?_eq_getElem hlt⟩
      obtain⟨⟨yt,yv⟩,hy⟩:∃x,M[k]? = some x:=⟨_,List.getElem?_eq_getElem (by rw[←HE.out.2.2];exact hlt)⟩
      obtain⟨g,o,rfl,_,hc⟩:=rd_sat dcl_len (H1.out.2.2.2.2.1.keep hb (by rw[H1.out.1];omega)) hx rfl
      obtain⟨g',o',rfl,_,hc'⟩:=rd_sat dcl_len (H1.out.2.2.2.2.2.keep hb (by rw[H1.out.1];omega)) hy rfl
      have y0:wr.cell? ⟨g,o+k*2,none⟩=some (.string ⟨xt.toArray⟩):=hc 0 _ rfl
      have y1:wr.cell? ⟨g,o+k*2+1,none⟩=some (.bool xv):=hc 1 _ rfl
      have z0:wr.cell? ⟨g',o'+k*2,none⟩=some (.string ⟨yt.toArray⟩):=hc' 0 _ rfl
      have z1:wr.cell? ⟨g',o'+k*2+1,none⟩=some (.bool yv):=hc' 1 _ rfl
      have HP:=Lib.hid (And.intro hp (And.intro hx (And.intro hy hb)))
      clear hp hx hy hb hc hc'
      have hfin:(xt,xv)≠(yt,yv)→∀n,Ending.returned (.bool false)=Ending.returned (.bool (sameL ⟨xa,L,xb⟩ ⟨ya,M,yb⟩))∧Below w.heap.size w (wr.drewN n):=by
        intro hne n
        refine⟨ret_bool (H0.out.2.2.2.2.2 (.inr (.inr fun h=>?_))).symm,below_drewN' (H1.out.2.1.trans (HP.out.2.2.2.mono H1.out.2.1.size)) _⟩
        have:=HP.out.2.1
        rw[h,HP.out.2.2.1] at this
        injection this with this
        exact hne this.symm
      have HF:=Lib.hid hfin
      clear hfin
      by_cases ht:xt=yt
      ·subst ht
       by_cases hbb:xv=yv
       ·subst hbb
        go_wp2_with fail
        go_quiet (fail)
        go_wp2_with fail
        exact⟨⟨k+1,by omega,by go_num,take_same HP.out.1 HP.out.2.1 HP.out.2.2.1,below_drewN' HP.out.2.2.2 _⟩,by simp[intOf];omega⟩
       ·have q1:(xv==yv)=false:=by simpa using hbb
        go_wp2_with fail
        go_quiet (fail)
        go_wp2
        go_ret
        exact HF.out (fun h=>hbb (by injection h)) _
      ·have q1:(xt==yt)=false:=by simpa using ht
       go_wp2_with fail
       go_quiet (fail)
       go_wp2
       go_ret
       exact HF.out (fun h=>ht (by injection h)) _
     ·obtain rfl:k=L.length:=by omega
      have HP:=Lib.hid (And.intro hp hb)
      clear hp hb
      go_wp2_with fail
      go_ret
      refine⟨ret_bool (H0.out.2.2.2.2.1 _ ?_ HE.out.1 HE.out.2.1).symm,H1.out.2.1.trans (HP.out.2.mono H1.out.2.1.size)⟩
      rw[decide_eq_true_eq]
      have:=HP.out.1
      rw[List.take_length,HE.out.2.2,List.take_length] at this
      exact this
  ·have hres:sameL ⟨xa,L,xb⟩ ⟨ya,M,yb⟩=false:=by
     refine H0.out.2.2.2.2.2 ?_
     by_cases h1:xa=ya
     ·by_cases h2:xb=yb
      ·exact .inr (.inr fun h=>hall ⟨h1,h2,by rw[h]⟩)
      ·exact .inr (.inl h2)
     ·exact .inl h1
   have hw3:(xa != ya)=true∨((xa != ya)=false∧(xb==yb)=false∧(xb != yb)=true)∨((xa != ya)=false∧(xb==yb)=true∧(xb != yb)=false∧((L.length:Int)!=(M.length:Int))=true):=by
     by_cases h1:xa=ya
     ·by_cases h2:xb=yb
      ·exact .inr (.inr ⟨by simpa using h1,by simpa using h2,by simpa using h2,by rw[bne_iff_ne];intro h;exact hall ⟨h1,h2,by omega⟩⟩)
      ·exact .inr (.inl ⟨by simpa using h1,by simpa using h2,by simpa using h2⟩)
     ·exact .inl (by simpa using h1)
   rw[hres]
   clear hres hall
   exact same9_rn xa ya xb yb L M A A' c c' w hw3
end Go.Proofs.YtnclfgkpcpcapaaGreatDoor
namespace Go.Proofs.YtnclfgkpcpcapaaGreatDoor
open Go.RowKit Go.ChangeShapes Go.WideShapes Go.Deep
set_option maxRecDepth 100000
set_option linter.unusedVariables false
end Go.Proofs.YtnclfgkpcpcapaaGreatDoor
