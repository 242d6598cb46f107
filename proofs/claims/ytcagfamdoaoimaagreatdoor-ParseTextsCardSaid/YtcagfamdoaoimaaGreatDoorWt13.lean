/- ParseTexts: the walk. The leaves and the tree of any text are as the document says. -/
import Derived.Test.YtcagfamdoaoimaaGreatDoorSt13
import Derived.Test.YtcagfamdoaoimaaGreatDoorLv9
namespace Go.Proofs.YtcagfamdoaoimaaGreatDoor
open Go.RowKit
set_option linter.unusedVariables false
set_option linter.unusedSimpArgs false
set_option maxRecDepth 100000
theorem lvs_same (l:List UInt8):Ly l=mD l:=rfl
set_option maxHeartbeats 4000000 in
theorem parseTexts_w (l:List UInt8) (w:World) (hm:l.length≤9223372036854775807) :
    Calls Tryz.prog 3 #[.string ⟨l.toArray⟩] w fun e w'=>e=.returned (.bool true)∧Below w.heap.size w w':=by
  go_enter Tryz.func3,Tryz.ntmps3
  by_cases h100:(100:Int)<(l.length:Int)
  ·go_wp2_with (
     (go_at_call 10
      refine(Mn _).mono ?_
      rintro e w1 ⟨rfl,hb⟩
      have H:=aa hb
      clear hb))
   go_ret
   exact⟨rfl,H.out⟩
  ·have hl:l.length≤900:=by omega
   have hF:=wL l hl
   have hlen:=Dm (mD l)
   have hF9:=hF.n
   have c1:=fun W=>MD l W hl
   have c2:=fun W=>Mg l W hl
   rw[lvs_same] at c2
   generalize mD l=F at c1 c2 hF hlen hF9
   have c3:=fun fv W (h:Rd W W.heap.size 4 fv F.length (iZ F))=>My F fv W hF h
   generalize (fP F).l=L at c1 c3 hlen
   have hl9:L.length≤100000:=by omega
   have c4:=fun (A1 A2:Option Addr) (k1 k2:Nat) (W:World)=>KW L A1 A2 k1 k2 W hl9
   have HC:=aa (ac c1 (ac c2 (ac c3 c4)))
   clear c1 c2 c3 c4 hF
   go_wp2_with (first
     | (go_at_call 10
        refine(Mn _).mono ?_
        rintro e w1 ⟨rfl,hb⟩
        have H:=aa hb
        clear hb)
     | (go_at_call 11
        with_reducible refine(HC.out.1 _).mono ?_
        rintro e w2 ⟨v1,v2,rfl,ho,ho2,hb2⟩
        obtain⟨A,n,c,rfl⟩:=dR ho
        obtain rfl:=eF ho
        obtain⟨A2,n2,c2,rfl⟩:=dR ho2
        obtain rfl:=eF ho2
        have H2:=aa (ac (Rd.of_own ho) (ac (Rd.of_own ho2) (H.out.trans (hb2.mono H.out.size))))
        clear ho ho2 hb2)
     | (go_at_call 12
        with_reducible refine(HC.out.2.1 _).mono ?_
        rintro e w6 ⟨v,rfl,ho,hb6⟩
        obtain⟨A6,n6,c6,rfl⟩:=dR ho
        obtain rfl:=eF ho
        have H6:=aa (ac (H2.out.1.next hb6) (ac (Rd.of_own ho) (ac (H2.out.2.1.next hb6) (H2.out.2.2.trans (hb6.mono H2.out.2.2.size)))))
        clear ho hb6)
     | fail)
   go_loopw [6] (fun i wr=>∃k:Nat,k≤F.length∧i=.int .i64 k∧Below w6.heap.size w6 wr) (fun i _=>F.length-(intOf i).toNat)
   case atStart=>exact⟨0,bK _,rfl,aD _ _⟩
   case round=>
     obtain⟨k,hk,rfl,hb⟩:=hrel
     by_cases hlt:k<F.length
     ·have u1:(k:Int)<(F.length:Int):=by omega
      have u2:(0:Int)≤(k:Int):=by omega
      obtain⟨t,ht⟩:∃t,F[k]? = some t:=⟨_,ax hlt⟩
      obtain⟨g,o,rfl,_,hc⟩:=iY (lay:=NG) (fun _=>rfl) (H6.out.1.keep hb (an _)) ht rfl
      obtain⟨g',o',rfl,_,hc'⟩:=iY (lay:=NG) (fun _=>rfl) (H6.out.2.1.keep hb (an _)) ht rfl
      have y0:wr.cell? ⟨g,o+k*4,none⟩=some (.int .i64 t.kd):=hc 0 _ rfl
      have y1:wr.cell? ⟨g,o+k*4+1,none⟩=some (.string ⟨t.tx.toArray⟩):=hc 1 _ rfl
      have y2:wr.cell? ⟨g,o+k*4+2,none⟩=some (.int .i64 t.fr):=hc 2 _ rfl
      have y3:wr.cell? ⟨g,o+k*4+3,none⟩=some (.int .i64 t.to):=hc 3 _ rfl
      have z0:wr.cell? ⟨g',o'+k*4,none⟩=some (.int .i64 t.kd):=hc' 0 _ rfl
      have z1:wr.cell? ⟨g',o'+k*4+1,none⟩=some (.string ⟨t.tx.toArray⟩):=hc' 1 _ rfl
      have z2:wr.cell? ⟨g',o'+k*4+2,none⟩=some (.int .i64 t.fr):=hc' 2 _ rfl
      have z3:wr.cell? ⟨g',o'+k*4+3,none⟩=some (.int .i64 t.to):=hc' 3 _ rfl
      have HB:=aa hb
      clear hb hc hc' ht
      go_wp2_with fail
      go_quiet (fail)
      go_wp2_with fail
      exact⟨⟨k+1,by omega,by go_num,dM HB.out _⟩,by simp[intOf]<;>omega⟩
     ·obtain rfl:k=F.length:=by omega
      have HB:=aa hb
      clear hb
      go_wp2_with (first
        | (go_at_call 14
           with_reducible refine(HC.out.2.2.1 _ _ (H6.out.2.1.next HB.out)).mono ?_
           rintro e w7 ⟨v,rfl,ho,hb⟩
           obtain⟨A3,n3,c3,rfl⟩:=dR ho
           have hn3:=eF ho
           subst hn3
           have HW:=aa (H6.out.2.2.2.trans (HB.out.mono H6.out.2.2.2.size))
           have H3:=aa (ac ((H6.out.2.2.1.next HB.out).next hb) (ac (Rd.of_own ho) (HW.out.trans (hb.mono HW.out.size))))
           clear ho hb)
        | (go_at_call 13
           with_reducible refine(HC.out.2.2.2 _ _ _ _ _ H3.out.1 H3.out.2.1).mono ?_
           rintro e w8 ⟨rfl,hb⟩
           have H4:=aa (H3.out.2.2.trans (hb.mono H3.out.2.2.size))
           clear hb)
        | fail)
      go_ret
      exact⟨rfl,H4.out⟩
end Go.Proofs.YtcagfamdoaoimaaGreatDoor
