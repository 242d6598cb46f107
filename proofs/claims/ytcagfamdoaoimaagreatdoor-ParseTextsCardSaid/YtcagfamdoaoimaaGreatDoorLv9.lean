/- quillwortlaw09.SameTokens on two equal rows. -/
import Derived.Test.YtcagfamdoaoimaaGreatDoorEc9
import Derived.Test.YtcagfamdoaoimaaGreatDoorSa9
import Derived.Test.YtcagfamdoaoimaaGreatDoorSt9
import Derived.Test.YtcagfamdoaoimaaGreatDoorRl9
import Derived.Test.YtcagfamdoaoimaaGreatDoorLf9
import Derived.Test.YtcagfamdoaoimaaGreatDoorLa9
set_option linter.unusedVariables false
set_option linter.unusedSimpArgs false
set_option maxRecDepth 100000
set_option maxHeartbeats 8000000
namespace Go.Proofs.YtcagfamdoaoimaaGreatDoor
open Go.RowKit
theorem BL (t:Tk):(Me t).length=4:=rfl
section
open Go.RowKit Go.ChangeShapes Go.WideShapes Go.Deep
end
def tz (t:Tk):Tz:=⟨t.kd,t.fr,t.to,t.op⟩
def Ly (l:List UInt8):List Lf:=fN l ((iR l).1.map tz)
theorem LE {l:List UInt8} {t:Tk} (h1:t.fr≤t.to) (h2:t.to≤l.length):xq l (tz t)=true:=by
  unfold xq tz;simp only[aX,cy];omega
theorem Ga {l:List UInt8} {t:Tk} (h1:t.fr≤t.to) (h2:t.to≤l.length):lR l (tz t)=if i5 (t.kd:Int)=true then [⟨t.kd,sub l t.fr t.to,t.fr,t.to⟩] else []:=by
  have h:=LE h1 h2;unfold lR Iu;rw[h];by_cases hk:i5 (t.kd:Int)=true
  ·rw[aE ⟨rfl,hk⟩,aE hk,aE rfl];rfl
  ·rw[aB (fun h=>hk h.2),aB hk]
theorem yN (k:Int):((k==2)=true∧i5 k=true)∨((k==2)=false∧(k==4)=true∧i5 k=true)∨((k==2)=false∧(k==4)=false∧(k==5)=true∧i5 k=true) ∨
    ((k==2)=false∧(k==4)=false∧(k==5)=false∧(k==6)=true∧i5 k=true)∨((k==2)=false∧(k==4)=false∧(k==5)=false∧(k==6)=false∧i5 k=false):=by
  unfold i5
  cases h4:k==4<;>cases h5:k==5<;>cases h6:k==6<;>cases h2:k==2<;>simp
theorem Mg (l:List UInt8) (w:World) (hl:l.length≤900) :
    Calls Tryz.prog 12 #[.string ⟨l.toArray⟩] w fun e w'=>∃v,e=.returned v∧w'.ownsRow w.heap.size 29 4 v (Ly l).length (iZ (Ly l))∧Below w.heap.size w w':=by
  obtain⟨i0,hi0,hz0,hz1,hz2⟩:=cz Tryz.infoLeaf;have htile:=ox l;have tlen:=nS l;unfold Ly;obtain⟨ts,hts⟩:∃ts,ts=(iR l).1:=⟨_,rfl⟩;obtain⟨Y,hY⟩:∃Y,Y=(iR l).2:=⟨_,rfl⟩;have hL:∀W,Calls Tryz.prog 34 #[.string ⟨l.toArray⟩] W fun e w'=>∃v1 v2,e=.returned (.tuple #[v1,v2])∧w'.ownsRow W.heap.size 54 4 v1 ts.length (jw ts)∧CH w' Y v2∧Below W.heap.size W w':=by
    intro W;rw[hts,hY];exact K3 l W hl
  rw[←hts] at htile tlen ⊢;clear hts hY;have HT:=aa (ac htile hL);clear htile hL;go_enter Tryz.func12,Tryz.ntmps12;go_wp2_with (
    (go_at_call 34;refine(HT.out.2 _).mono ?_;rintro e w2 ⟨v1,v2,rfl,ho,⟨v3,rfl,hr⟩,hb2⟩;obtain⟨A3,c3,rfl⟩:=hr.form;unfold ir;obtain⟨A,n,c,rfl⟩:=dR ho;obtain rfl:=eF ho;have hb3:=hb2.alloc hb2.size (.cells #[.int .i64 Y.aw,.slice A3 Y.pd.length c3,.bool Y.bd] 49);have hr3:=Rd.of_own (ho.alloc (.cells #[.int .i64 Y.aw,.slice A3 Y.pd.length c3,.bool Y.bd] 49));have H2:=aa (ac hr3 hb3);clear ho hb2 hr hb3 hr3))
  generalize World.alloc _ _=W at H2 ⊢;go_loopw [5,6] (fun o i wr=>∃k:Nat,k≤ts.length∧i=.int .i64 k∧wr.ownsRow W.heap.size 29 4 o (fN l ((ts.map tz).take k)).length (iZ (fN l ((ts.map tz).take k)))∧Below W.heap.size W wr) (fun o i _=>ts.length-(intOf i).toNat)
  case atStart=>exact⟨0,bK _,rfl,bV _ _ _ _,aD _ _⟩
  case round=>
    obtain⟨k,hk,rfl,ho,hb⟩:=hrel;by_cases hlt:k<ts.length
    ·obtain⟨⟨kd,fr,tt,op⟩,hget⟩:∃t,ts[k]? = some t:=⟨_,ax hlt⟩;obtain⟨_,t2,t3,_⟩:=BN HT.out.1 k _ hget;have t2:fr<tt:=t2;have t3:tt≤l.length:=t3;obtain⟨g,q,rfl,hgl,hc⟩:=iY BL (H2.out.1.keep hb (an _)) hget rfl;have hcw:∀w',Below W.heap.size W w'→w'.cell? ⟨g,q+k*4,none⟩=some (.int .i64 (kd:Int))∧w'.cell? ⟨g,q+k*4+1,none⟩=some (.int .i64 (fr:Int))∧w'.cell? ⟨g,q+k*4+2,none⟩=some (.int .i64 (tt:Int)):=fun w' hb'=>by
       obtain⟨g',q',he,_,hc'⟩:=iY BL (H2.out.1.keep hb' (an _)) hget rfl;injection he with he
       injection he with h1 h2
       subst h1 h2;exact⟨hc' 0 _ rfl,hc' 1 _ rfl,hc' 2 _ rfl⟩
     have HC:=aa hcw;clear hcw;have y0:wr.cell? ⟨g,q+k*4,none⟩=some (.int .i64 (kd:Int)):=hc 0 _ rfl;have y1:wr.cell? ⟨g,q+k*4+1,none⟩=some (.int .i64 (fr:Int)):=hc 1 _ rfl;have y2:wr.cell? ⟨g,q+k*4+2,none⟩=some (.int .i64 (tt:Int)):=hc 2 _ rfl;have u1:(k:Int)<(ts.length:Int):=by omega
     have u2:(0:Int)≤(k:Int):=by omega
     have v0:(0:Int)≤(fr:Int):=by omega
     have v1:(fr:Int)≤(tt:Int):=by omega
     have v2:(tt:Int)≤(l.length:Int):=by omega
     have hlen:(fN l ((ts.map tz).take k)).length≤100000:=by
       have:=lQ l ((ts.map tz).take k)
       rw[cg,cC] at this;omega
     have hsuc:=qM l (ts.map tz) (k:=k) (t:=tz ⟨kd,fr,tt,op⟩) (by rw[bq,hget];rfl);have hleaf:=Ga (l:=l) (t:=⟨kd,fr,tt,op⟩) (by show fr≤tt;omega) t3;have hleaf:lR l (tz ⟨kd,fr,tt,op⟩)=if i5 (kd:Int)=true then [⟨kd,sub l fr tt,fr,tt⟩] else []:=hleaf;have hext:(ByteArray.mk l.toArray).extract fr tt=⟨(sub l fr tt).toArray⟩:=by rw[dX];rfl
     obtain⟨L,hL⟩:∃L,L=fN l ((ts.map tz).take k):=⟨_,rfl⟩;obtain⟨X,hX⟩:∃X,X=sub l fr tt:=⟨_,rfl⟩;rw[←hL] at hsuc ho hlen;rw[←hX] at hleaf hext;have kways:=yN (kd:Int);generalize i5 (kd:Int)=bk at kways hleaf;obtain⟨A2,n2,c2,rfl⟩:=dR ho;obtain rfl:=eF ho;have hod:wr.drew.ownsRow W.heap.size 29 4 (.slice A2 L.length c2) L.length (iZ L):=ho;have HP:=aa (ac ho (ac hb (ac hsuc (ac hleaf (ac hext hod)))));clear ho hb hsuc hleaf hext hod hc hget hL hX t2 t3;rcases kways with ⟨k2,rfl⟩|⟨k2,k4,rfl⟩|⟨k2,k4,k5,rfl⟩|⟨k2,k4,k5,k6,rfl⟩|⟨k2,k4,k5,k6,rfl⟩
     iterate 4
       ·go_upto_region 8 with fail
        go_region_held3 (fun w'=>w'.cell? ⟨g,q+k*4,none⟩=some (.int .i64 (kd:Int))∧w'.cell? ⟨g,q+k*4+1,none⟩=some (.int .i64 (fr:Int))∧w'.cell? ⟨g,q+k*4+2,none⟩=some (.int .i64 (tt:Int)))
          (first
            | with_reducible exact⟨y0,y1,y2⟩
            | go_keep)
          (first
            | (rw[HP.out.2.2.2.2.1];refine dV rfl (.tmp 38) (.tmp 63) 23 rfl W.heap.size 29 i0 _ 4 40 Tryz.underlying23 hi0 hz0 hz1 hz2 rfl (by decide) (.slice A2 L.length c2) L.length (iZ L) (by simp[Act.eval]) (HP.out.2.2.2.2.2.alloc _) (.slice (some ⟨wr.heap.size,0,none⟩) 1 1) 1 (wr.heap.size+1) (iZ [⟨kd,X,fr,tt⟩]) (by simp[Act.eval]) (fL wr.drew (iZ [⟨kd,X,fr,tt⟩]) 29 4 1 rfl (by omega)) (FW _) (by unfold maxLen;omega) (by omega) (by have:=HP.out.2.1.size;simp;omega) ?_;intro v6 w6 hown6 hg6 hv6;have hb6:Below W.heap.size W w6:=cR (HP.out.2.1.drew.alloc (by have:=HP.out.2.1.size;simp;omega) _) hg6 (by have:=HP.out.2.1.size;simp;omega) (fun kk hk=>(HP.out.1.lt kk hk).1);obtain⟨y0,y1,y2⟩:=HC.out w6 hb6;have H6:=aa (ac hown6 hb6);clear hown6 hg6 hv6 hb6))
        all_goals (
          go_wp2_with fail;refine⟨⟨k+1,by omega,by go_num,?_,H6.out.2⟩,by simp[intOf];omega⟩;rw[HP.out.2.2.1,HP.out.2.2.2.1,aE rfl,yL,aH];exact H6.out.1)
     ·go_wp2_with fail;refine⟨⟨k+1,by omega,by go_num,?_,HP.out.2.1⟩,by simp[intOf];omega⟩;rw[HP.out.2.2.1,HP.out.2.2.2.1,aB (by decide),bM];exact HP.out.1
    ·obtain rfl:k=ts.length:=by omega
     rw[bP (by simp)] at ho;have HP:=aa (ac ho hb);clear ho hb;go_wp2_with fail;go_ret;exact⟨_,rfl,fF HP.out.1 H2.out.2.size,H2.out.2.trans (HP.out.2.mono H2.out.2.size)⟩
end Go.Proofs.YtcagfamdoaoimaaGreatDoor
