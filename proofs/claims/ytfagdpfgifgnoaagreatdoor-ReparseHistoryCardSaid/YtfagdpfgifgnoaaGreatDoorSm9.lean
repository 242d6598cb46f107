/- quillwortlaw09.SameTokens on two equal rows. -/
import Derived.Test.YtfagdpfgifgnoaaGreatDoorEc9
import Derived.Test.YtfagdpfgifgnoaaGreatDoorSa9
import Derived.Test.YtfagdpfgifgnoaaGreatDoorSt9
import Derived.Test.YtfagdpfgifgnoaaGreatDoorSp9
import Derived.Test.YtfagdpfgifgnoaaGreatDoorLa9
import Derived.Test.YtfagdpfgifgnoaaGreatDoorMem
import Derived.Test.YtfagdpfgifgnoaaGreatDoorHr9
import Derived.Test.YtfagdpfgifgnoaaGreatDoorPl6
import Derived.Test.YtfagdpfgifgnoaaGreatDoorCls
import Derived.Test.YtfagdpfgifgnoaaGreatDoorClose2
import Derived.Test.YtfagdpfgifgnoaaGreatDoorPa0
import Derived.Test.YtfagdpfgifgnoaaGreatDoorBv8
import Derived.Test.YtfagdpfgifgnoaaGreatDoorFl8
import Derived.Test.YtfagdpfgifgnoaaGreatDoorRfy
import Derived.Test.YtfagdpfgifgnoaaGreatDoorMo9
import Derived.Test.YtfagdpfgifgnoaaGreatDoorLf9
set_option linter.unusedVariables false
set_option linter.unusedSimpArgs false
set_option maxRecDepth 100000
set_option maxHeartbeats 8000000
namespace Go.Proofs.YtfagdpfgifgnoaaGreatDoor
open Go.RowKit
theorem ut (t:Tk):(F9 t).length=4:=rfl
theorem FR (ts:List Tk) (A A':Option Addr) (c c':Nat) (w:World) (hl:ts.length≤100000) (h1:Rd w w.heap.size 4 (.slice A ts.length c) ts.length (fU ts)) (h2:Rd w w.heap.size 4 (.slice A' ts.length c') ts.length (fU ts)) :
    iE 22 #[.slice A ts.length c,.slice A' ts.length c'] w (.bool true):=by
  have H0:=Lib.hid (And.intro h1 h2);clear h1 h2;go_enter Tryz.func22,Tryz.ntmps22;go_wp2;go_loopw [5] (fun i wr=>∃k:Nat,k≤ts.length∧i=.int .i64 k∧Below w.heap.size w wr) (fun i _=>ts.length-(intOf i).toNat)
  case atStart=>exact⟨0,Nat.zero_le _,rfl,Below.refl _ _⟩
  case round=>
    obtain⟨k,hk,rfl,hb⟩:=hrel;by_cases hlt:k<ts.length
    ·have u1:(k:Int)<(ts.length:Int):=by omega
     have u2:(0:Int)≤(k:Int):=by omega
     obtain⟨t,ht⟩:∃t,ts[k]? = some t:=⟨_,List.getElem?_eq_getElem hlt⟩;obtain⟨g,o,rfl,_,hc⟩:=bS ut (H0.out.1.keep hb (Nat.le_refl _)) ht rfl;obtain⟨g',o',rfl,_,hc'⟩:=bS ut (H0.out.2.keep hb (Nat.le_refl _)) ht rfl;have y0:wr.cell? ⟨g,o+k*4,none⟩=some (.int .i64 (t.kd:Int)):=hc 0 _ rfl;have y1:wr.cell? ⟨g,o+k*4+1,none⟩=some (.int .i64 (t.fr:Int)):=hc 1 _ rfl;have y2:wr.cell? ⟨g,o+k*4+2,none⟩=some (.int .i64 (t.to:Int)):=hc 2 _ rfl;have y3:wr.cell? ⟨g,o+k*4+3,none⟩=some (.bool t.op):=hc 3 _ rfl;have z0:wr.cell? ⟨g',o'+k*4,none⟩=some (.int .i64 (t.kd:Int)):=hc' 0 _ rfl;have z1:wr.cell? ⟨g',o'+k*4+1,none⟩=some (.int .i64 (t.fr:Int)):=hc' 1 _ rfl;have z2:wr.cell? ⟨g',o'+k*4+2,none⟩=some (.int .i64 (t.to:Int)):=hc' 2 _ rfl;have z3:wr.cell? ⟨g',o'+k*4+3,none⟩=some (.bool t.op):=hc' 3 _ rfl;have HB:=Lib.hid hb;clear hb hc hc' ht;go_wp2_with fail;go_quiet (fail);go_wp2_with fail;exact⟨⟨k+1,by omega,by go_num,ae HB.out _⟩,by simp[intOf]<;>omega⟩
    ·obtain rfl:k=ts.length:=by omega
     have HB:=Lib.hid hb;clear hb;go_wp2_with fail;go_ret;exact⟨rfl,HB.out⟩
theorem vd (x:Dl):(F3 x).length=2:=rfl
theorem vp {α:Type} {L M:List α} {k:Nat} {x:α} (h:L.take k=M.take k) (hx:L[k]? = some x) (hy:M[k]? = some x):L.take (k+1)=M.take (k+1):=by
  rw[List.take_add_one,List.take_add_one,h,hx,hy]
theorem zv (L M:List Dl) (A A':Option Addr) (c c':Nat) (w:World) (hL:Rd w w.heap.size 2 (.slice A L.length c) L.length (bK L)) (hM:Rd w w.heap.size 2 (.slice A' M.length c') M.length (bK M)) (hl:L.length≤9223372036854775807) (hl':M.length≤9223372036854775807) :
    iE 94 #[.slice A L.length c,.slice A' M.length c'] w (.bool (decide (L=M))):=by
  by_cases hlen:L.length=M.length
  ·have e1:((L.length:Int)==(M.length:Int))=true:=by rw[beq_iff_eq];omega
   have e2:((L.length:Int)!=(M.length:Int))=false:=by rw[bne_eq_false_iff_eq];omega
   have HE:=Lib.hid hlen;have H0:=Lib.hid (And.intro hL hM);clear hL hM hlen;go_enter Tryz.func94,Tryz.ntmps94;go_wp2;go_loopw [5,13] (fun s i wr=>∃k:Nat,k≤L.length∧i=.int .i64 k∧L.take k=M.take k∧Below w.heap.size w wr) (fun s i _=>L.length-(intOf i).toNat)
   case atStart=>exact⟨0,Nat.zero_le _,rfl,by simp,Below.refl _ _⟩
   case round=>
     obtain⟨k,hk,rfl,hp,hb⟩:=hrel;by_cases hlt:k<L.length
     ·have u1:(k:Int)<(L.length:Int):=by omega
      have u2:(0:Int)≤(k:Int):=by omega
      have u3:(k:Int)<(M.length:Int):=by have:=HE.out;omega
      obtain⟨⟨xt,xb⟩,hx⟩:∃x,L[k]? = some x:=⟨_,List.getElem?_eq_getElem hlt⟩;obtain⟨⟨yt,yb⟩,hy⟩:∃x,M[k]? = some x:=⟨_,List.getElem?_eq_getElem (by rw[←HE.out];exact hlt)⟩;obtain⟨g,o,rfl,_,hc⟩:=bS vd (H0.out.1.keep hb (Nat.le_refl _)) hx rfl;obtain⟨g',o',rfl,_,hc'⟩:=bS vd (H0.out.2.keep hb (Nat.le_refl _)) hy rfl;have y0:wr.cell? ⟨g,o+k*2,none⟩=some (.string ⟨xt.toArray⟩):=hc 0 _ rfl;have y1:wr.cell? ⟨g,o+k*2+1,none⟩=some (.bool xb):=hc 1 _ rfl;have z0:wr.cell? ⟨g',o'+k*2,none⟩=some (.string ⟨yt.toArray⟩):=hc' 0 _ rfl;have z1:wr.cell? ⟨g',o'+k*2+1,none⟩=some (.bool yb):=hc' 1 _ rfl;have HP:=Lib.hid (And.intro hp (And.intro hx (And.intro hy hb)));clear hp hx hy hb hc hc';by_cases ht:xt=yt
      ·subst ht;by_cases hbb:xb=yb
       ·subst hbb;go_wp2_with fail;go_quiet (fail);go_wp2_with fail;exact⟨⟨k+1,by omega,by go_num,vp HP.out.1 HP.out.2.1 HP.out.2.2.1,ae HP.out.2.2.2 _⟩,by simp[intOf];omega⟩
       ·have q1:(xb==yb)=false:=by simpa using hbb
        go_wp2_with fail;go_quiet (fail);go_wp2;go_ret;refine⟨fG ?_,ae HP.out.2.2.2 _⟩
        symm
        rw[decide_eq_false_iff_not];intro h
        have:=HP.out.2.1
        rw[h,HP.out.2.2.1] at this;simp at this;exact hbb this.symm
      ·have q1:(xt==yt)=false:=by simpa using ht
       go_wp2_with fail;go_quiet (fail);go_wp2;go_ret;refine⟨fG ?_,ae HP.out.2.2.2 _⟩
       symm
       rw[decide_eq_false_iff_not];intro h
       have:=HP.out.2.1
       rw[h,HP.out.2.2.1] at this;simp at this;exact ht this.1.symm
     ·obtain rfl:k=L.length:=by omega
      have HP:=Lib.hid (And.intro hp hb);clear hp hb;go_wp2_with fail;go_ret;refine⟨fG ?_,HP.out.2⟩
      symm
      rw[decide_eq_true_eq]
      have:=HP.out.1
      rw[List.take_length,HE.out,List.take_length] at this;exact this
  ·have e1:((L.length:Int)==(M.length:Int))=false:=by rw[beq_eq_false_iff_ne];omega
   have e2:((L.length:Int)!=(M.length:Int))=true:=by rw[bne_iff_ne];omega
   have hne:decide (L=M)=false:=by rw[decide_eq_false_iff_not];rintro rfl;exact hlen rfl
   rw[hne];clear hne hlen hL hM;go_enter Tryz.func94,Tryz.ntmps94;go_wp2;go_ret;exact⟨rfl,Below.refl _ _⟩
def lW (X Y:Lx):Bool:=decide (X.aw=Y.aw)&&decide (X.bd=Y.bd)&&decide (X.pd=Y.pd)
theorem oz (X Y:Lx):lW X Y=true↔X=Y:=by
  obtain⟨a,b,c⟩:=X;obtain⟨a',b',c'⟩:=Y;simp[lW];constructor
  ·rintro ⟨⟨h1,h2⟩,h3⟩;exact⟨h1,h3,h2⟩
  ·rintro ⟨h1,h2,h3⟩;exact⟨⟨h1,h3⟩,h2⟩
theorem AZ (X Y:Lx) (A A':Option Addr) (c c':Nat) (w:World) (hL:Rd w w.heap.size 2 (.slice A X.pd.length c) X.pd.length (bK X.pd)) (hM:Rd w w.heap.size 2 (.slice A' Y.pd.length c') Y.pd.length (bK Y.pd)) (hl:X.pd.length≤9223372036854775807) (hl':Y.pd.length≤9223372036854775807) :
    iE 71 #[.agg #[.int .i64 X.aw,.slice A X.pd.length c,.bool X.bd],.agg #[.int .i64 Y.aw,.slice A' Y.pd.length c',.bool Y.bd]] w (.bool (lW X Y)):=by
  obtain⟨xa,L,xb⟩:=X;obtain⟨ya,M,yb⟩:=Y;have hs:∀b:Bool,decide (L=M)=b→xa=ya→xb=yb→lW ⟨xa,L,xb⟩ ⟨ya,M,yb⟩=b:=by
    rintro b hb rfl rfl;simp[lW,hb]
  have hs2:xa≠ya∨xb≠yb→lW ⟨xa,L,xb⟩ ⟨ya,M,yb⟩=false:=by
    rintro (h|h)<;>simp[lW,h]
  have H0:=Lib.hid (And.intro hL (And.intro hM (And.intro hl (And.intro hl' (And.intro hs hs2)))));clear hL hM hl hl' hs hs2;by_cases ha:xa=ya
  ·by_cases hb:xb=yb
   ·have q1:(xa==ya)=true:=by simpa using ha
    have q2:(xb==yb)=true:=by simpa using hb
    have HE:=Lib.hid (And.intro ha hb);clear ha hb;go_enter Tryz.func71,Tryz.ntmps71
    go_wp2_with (go_at_call 94
                 refine(zv L M A A' c c' _ ((H0.out.1.alloc (Nat.le_refl _) _).alloc (by simp) _ |>.mono (by simp;omega)) ((H0.out.2.1.alloc (Nat.le_refl _) _).alloc (by simp) _ |>.mono (by simp;omega)) H0.out.2.2.1 H0.out.2.2.2.1).mono ?_;rintro e w1 ⟨rfl,hb1⟩;have H1:=Lib.hid hb1;clear hb1)
    go_ret;refine⟨fG (H0.out.2.2.2.2.1 _ rfl HE.out.1 HE.out.2).symm,?_⟩
    exact(((Below.refl _ w).alloc (Nat.le_refl _) _).alloc (by simp) _).trans (H1.out.mono (by simp;omega))
   ·have q1:(xa==ya)=true:=by simpa using ha
    have q2:(xb==yb)=false:=by simpa using hb
    rw[H0.out.2.2.2.2.2 (.inr hb)];clear ha hb;go_enter Tryz.func71,Tryz.ntmps71;go_wp2;go_ret;exact⟨rfl,((Below.refl _ w).alloc (Nat.le_refl _) _).alloc (by simp) _⟩
  ·have q1:(xa==ya)=false:=by simpa using ha
   rw[H0.out.2.2.2.2.2 (.inl ha)];clear ha;go_enter Tryz.func71,Tryz.ntmps71;go_wp2;go_ret;exact⟨rfl,((Below.refl _ w).alloc (Nat.le_refl _) _).alloc (by simp) _⟩
section
open Go.RowKit Go.ChangeShapes Go.WideShapes Go.Deep
end
def tz (t:Tk):Tz:=⟨t.kd,t.fr,t.to,t.op⟩
theorem AE (ts:List Tk):fU ts=(ts.map tz).flatMap FN:=by
  unfold fU;rw[List.flatMap_map];rfl
end Go.Proofs.YtfagdpfgifgnoaaGreatDoor
