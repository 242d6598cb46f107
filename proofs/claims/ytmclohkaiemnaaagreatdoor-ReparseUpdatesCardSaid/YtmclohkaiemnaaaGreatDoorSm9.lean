/- quillwortlaw09.SameTokens on two equal rows. -/
import Derived.Test.YtmclohkaiemnaaaGreatDoorEc9
import Derived.Test.YtmclohkaiemnaaaGreatDoorSa9
import Derived.Test.YtmclohkaiemnaaaGreatDoorSt9
import Derived.Test.YtmclohkaiemnaaaGreatDoorSp9
import Derived.Test.YtmclohkaiemnaaaGreatDoorRb9
import Derived.Test.YtmclohkaiemnaaaGreatDoorMem
import Derived.Test.YtmclohkaiemnaaaGreatDoorPl6
import Derived.Test.YtmclohkaiemnaaaGreatDoorCls
import Derived.Test.YtmclohkaiemnaaaGreatDoorLa9
import Derived.Test.YtmclohkaiemnaaaGreatDoorClose2
import Derived.Test.YtmclohkaiemnaaaGreatDoorPa0
import Derived.Test.YtmclohkaiemnaaaGreatDoorBv8
import Derived.Test.YtmclohkaiemnaaaGreatDoorFl8
import Derived.Test.YtmclohkaiemnaaaGreatDoorRfy
import Derived.Test.YtmclohkaiemnaaaGreatDoorMo9
import Derived.Test.YtmclohkaiemnaaaGreatDoorLf9
set_option linter.unusedVariables false
set_option linter.unusedSimpArgs false
set_option maxRecDepth 100000
set_option maxHeartbeats 8000000
namespace Go.Proofs.YtmclohkaiemnaaaGreatDoor
open Go.RowKit
theorem Cf (x:Dl):(Og x).length=2:=rfl
theorem Ct {α:Type} {L M:List α} {k:Nat} {x:α} (h:L.take k=M.take k) (hx:L[k]? = some x) (hy:M[k]? = some x):L.take (k+1)=M.take (k+1):=by
  rw[List.take_add_one,List.take_add_one,h,hx,hy]
theorem Gr (L M:List Dl) (A A':Option Addr) (c c':Nat) (w:World) (hL:Rd w w.heap.size 2 (.slice A L.length c) L.length (fQ L)) (hM:Rd w w.heap.size 2 (.slice A' M.length c') M.length (fQ M)) (hl:L.length≤9223372036854775807) (hl':M.length≤9223372036854775807) :
    jJ 80 #[.slice A L.length c,.slice A' M.length c'] w (.bool (decide (L=M))):=by
  by_cases hlen:L.length=M.length
  ·have e1:((L.length:Int)==(M.length:Int))=true:=by rw[bA];omega
   have e2:((L.length:Int)!=(M.length:Int))=false:=by rw[bne_eq_false_iff_eq];omega
   have HE:=ac hlen;have H0:=ac (ae hL hM);clear hL hM hlen;go_enter Tryz.func80,Tryz.ntmps80;go_wp2;go_loopw [5,13] (fun s i wr=>∃k:Nat,k≤L.length∧i=.int .i64 k∧L.take k=M.take k∧Below w.heap.size w wr) (fun s i _=>L.length-(intOf i).toNat)
   case atStart=>exact⟨0,bq _,rfl,by simp,ay _ _⟩
   case round=>
     obtain⟨k,hk,rfl,hp,hb⟩:=hrel;by_cases hlt:k<L.length
     ·have u1:(k:Int)<(L.length:Int):=by omega
      have u2:(0:Int)≤(k:Int):=by omega
      have u3:(k:Int)<(M.length:Int):=by have:=HE.out;omega
      obtain⟨⟨xt,xb⟩,hx⟩:∃x,L[k]? = some x:=⟨_,ax hlt⟩;obtain⟨⟨yt,yb⟩,hy⟩:∃x,M[k]? = some x:=⟨_,ax (by rw[←HE.out];exact hlt)⟩;obtain⟨g,o,rfl,_,hc⟩:=fW Cf (H0.out.1.keep hb (au _)) hx rfl;obtain⟨g',o',rfl,_,hc'⟩:=fW Cf (H0.out.2.keep hb (au _)) hy rfl;have y0:wr.cell? ⟨g,o+k*2,none⟩=some (.string ⟨xt.toArray⟩):=hc 0 _ rfl;have y1:wr.cell? ⟨g,o+k*2+1,none⟩=some (.bool xb):=hc 1 _ rfl;have z0:wr.cell? ⟨g',o'+k*2,none⟩=some (.string ⟨yt.toArray⟩):=hc' 0 _ rfl;have z1:wr.cell? ⟨g',o'+k*2+1,none⟩=some (.bool yb):=hc' 1 _ rfl;have HP:=ac (ae hp (ae hx (ae hy hb)));clear hp hx hy hb hc hc';by_cases ht:xt=yt
      ·subst ht;by_cases hbb:xb=yb
       ·subst hbb;go_wp2_with fail;go_quiet (fail);go_wp2_with fail;exact⟨⟨k+1,by omega,by go_num,Ct HP.out.1 HP.out.2.1 HP.out.2.2.1,dX HP.out.2.2.2 _⟩,by simp[intOf];omega⟩
       ·have q1:(xb==yb)=false:=by simpa using hbb
        go_wp2_with fail;go_quiet (fail);go_wp2;go_ret;refine⟨iU ?_,dX HP.out.2.2.2 _⟩
        symm
        rw[cM];intro h
        have:=HP.out.2.1
        rw[h,HP.out.2.2.1] at this;simp at this;exact hbb this.symm
      ·have q1:(xt==yt)=false:=by simpa using ht
       go_wp2_with fail;go_quiet (fail);go_wp2;go_ret;refine⟨iU ?_,dX HP.out.2.2.2 _⟩
       symm
       rw[cM];intro h
       have:=HP.out.2.1
       rw[h,HP.out.2.2.1] at this;simp at this;exact ht this.1.symm
     ·obtain rfl:k=L.length:=by omega
      have HP:=ac (ae hp hb);clear hp hb;go_wp2_with fail;go_ret;refine⟨iU ?_,HP.out.2⟩
      symm
      rw[bT]
      have:=HP.out.1
      rw[dc,HE.out,dc] at this;exact this
  ·have e1:((L.length:Int)==(M.length:Int))=false:=by rw[aK];omega
   have e2:((L.length:Int)!=(M.length:Int))=true:=by rw[bne_iff_ne];omega
   have hne:decide (L=M)=false:=by rw[cM];rintro rfl;exact hlen rfl
   rw[hne];clear hne hlen hL hM;go_enter Tryz.func80,Tryz.ntmps80;go_wp2;go_ret;exact⟨rfl,ay _ _⟩
def rW (X Y:Lx):Bool:=decide (X.aw=Y.aw)&&decide (X.bd=Y.bd)&&decide (X.pd=Y.pd)
theorem uL (X Y:Lx):rW X Y=true↔X=Y:=by
  obtain⟨a,b,c⟩:=X;obtain⟨a',b',c'⟩:=Y;simp[rW];constructor
  ·rintro ⟨⟨h1,h2⟩,h3⟩;exact⟨h1,h3,h2⟩
  ·rintro ⟨h1,h2,h3⟩;exact⟨⟨h1,h3⟩,h2⟩
theorem IN (X Y:Lx) (A A':Option Addr) (c c':Nat) (w:World) (hL:Rd w w.heap.size 2 (.slice A X.pd.length c) X.pd.length (fQ X.pd)) (hM:Rd w w.heap.size 2 (.slice A' Y.pd.length c') Y.pd.length (fQ Y.pd)) (hl:X.pd.length≤9223372036854775807) (hl':Y.pd.length≤9223372036854775807) :
    jJ 58 #[.agg #[.int .i64 X.aw,.slice A X.pd.length c,.bool X.bd],.agg #[.int .i64 Y.aw,.slice A' Y.pd.length c',.bool Y.bd]] w (.bool (rW X Y)):=by
  obtain⟨xa,L,xb⟩:=X;obtain⟨ya,M,yb⟩:=Y;have hs:∀b:Bool,decide (L=M)=b→xa=ya→xb=yb→rW ⟨xa,L,xb⟩ ⟨ya,M,yb⟩=b:=by
    rintro b hb rfl rfl;simp[rW,hb]
  have hs2:xa≠ya∨xb≠yb→rW ⟨xa,L,xb⟩ ⟨ya,M,yb⟩=false:=by
    rintro (h|h)<;>simp[rW,h]
  have H0:=ac (ae hL (ae hM (ae hl (ae hl' (ae hs hs2)))));clear hL hM hl hl' hs hs2;by_cases ha:xa=ya
  ·by_cases hb:xb=yb
   ·have q1:(xa==ya)=true:=by simpa using ha
    have q2:(xb==yb)=true:=by simpa using hb
    have HE:=ac (ae ha hb);clear ha hb;go_enter Tryz.func58,Tryz.ntmps58
    go_wp2_with (go_at_call 80
                 refine(Gr L M A A' c c' _ ((H0.out.1.alloc (au _) _).alloc (by simp) _ |>.mono (by simp;omega)) ((H0.out.2.1.alloc (au _) _).alloc (by simp) _ |>.mono (by simp;omega)) H0.out.2.2.1 H0.out.2.2.2.1).mono ?_;rintro e w1 ⟨rfl,hb1⟩;have H1:=ac hb1;clear hb1)
    go_ret;refine⟨iU (H0.out.2.2.2.2.1 _ rfl HE.out.1 HE.out.2).symm,?_⟩
    exact(((ay _ w).alloc (au _) _).alloc (by simp) _).trans (H1.out.mono (by simp;omega))
   ·have q1:(xa==ya)=true:=by simpa using ha
    have q2:(xb==yb)=false:=by simpa using hb
    rw[H0.out.2.2.2.2.2 (.inr hb)];clear ha hb;go_enter Tryz.func58,Tryz.ntmps58;go_wp2;go_ret;exact⟨rfl,((ay _ w).alloc (au _) _).alloc (by simp) _⟩
  ·have q1:(xa==ya)=false:=by simpa using ha
   rw[H0.out.2.2.2.2.2 (.inl ha)];clear ha;go_enter Tryz.func58,Tryz.ntmps58;go_wp2;go_ret;exact⟨rfl,((ay _ w).alloc (au _) _).alloc (by simp) _⟩
section
open Go.RowKit Go.ChangeShapes Go.WideShapes Go.Deep
end
def tz (t:Tk):Tz:=⟨t.kd,t.fr,t.to,t.op⟩
theorem Ir (ts:List Tk):nh ts=(ts.map tz).flatMap Oc:=by
  unfold nh;rw[List.flatMap_map];rfl
end Go.Proofs.YtmclohkaiemnaaaGreatDoor
