/- quillwortref08.Double: the pieces of a Double's inside. -/
import Derived.Test.YtcagfamdoaoimaaGreatDoorRg8
import Derived.Test.YtcagfamdoaoimaaGreatDoorLa9
import Derived.Test.YtcagfamdoaoimaaGreatDoorFl8
import Derived.Deep.DeepCutAuto
import Derived.Deep.CutBlock
set_option linter.unusedVariables false
set_option linter.unusedSimpArgs false
set_option maxRecDepth 100000
set_option maxHeartbeats 8000000
namespace Go.Proofs.YtcagfamdoaoimaaGreatDoor
open Go.RowKit
def gT (o:Option fh) (x:Nat):Value:=match o with
  | none=>.tuple #[.agg #[.int .i64 0,.int .i64 0,.int .i64 0,.int .i64 0,.bool false],.int .i64 0]
  | some q=>.tuple #[.agg #[.int .i64 q.mode,.int .i64 (x:Int),.int .i64 (ei q:Int),.int .i64 q.up,.bool q.op],.int .i64 1]
theorem gv {l:List UInt8} {L:List fh} (hP:PL l L) (x c n:Nat) (A:Option Addr) (w:World) (hL:L.length≤100000) (hn:n=L.length) (hr:Rd w w.heap.size 5 (.slice A n c) n (fw L)) :
    Calls Tryz.prog 173 #[.slice A n c,.int .i64 (x:Int)] w fun e w'=>e=.returned (gT (gJ L x) x)∧Below w.heap.size w w':=by
  have e:gT (gJ L x) x=uq (gJ L x):=by
    cases hf:gJ L x with
    | none=>rfl
    | some q=>
      obtain⟨_,h1,h2,_⟩:=gw hP hf;unfold gT uq oX;simp only[h1];rw[←h2]
  rw[e];exact LJ L x c n A w hL hn hr
theorem iP (w:World) (k:Nat) (hk:w.heap.size=k) (cs:List Value) (t:TypeId) (sz m:Nat) (hl:cs.length=m*sz) (hm:m≤1000):Rd (w.alloc (.cells cs.toArray t)) (k+1) sz (.slice (some ⟨k,0,none⟩) m m) m cs:=by
  subst hk;exact fL w cs t sz m hl hm
theorem GY (l:List UInt8) (L:List fh) (hL:PL l L) (x0 e n c:Nat) (A:Option Addr) (w:World) (hl:l.length≤900) (hLl:L.length≤100000) (hn:n=L.length) (hr:Rd w w.heap.size 5 (.slice A n c) n (fw L)) (hx0:x0≤l.length) (he:e≤l.length) (R:List Pc) (hR:R=qV l L e (l.length+1) x0 [] []) :
    Calls Tryz.prog 175 #[.string ⟨l.toArray⟩,.slice A n c,.int .i64 (x0:Int),.int .i64 (e:Int)] w fun e' w'=>∃v,e'=.returned v∧w'.ownsRow w.heap.size 142 3 v R.length (eP R)∧Below w.heap.size w w':=by
  obtain⟨i0,hi0,hz0,hz1,hz2⟩:=cz Tryz.infoPiece;have H:=aa (ac hr (ac hR hn));clear hr hR hn;go_enter Tryz.func175,Tryz.ntmps175;go_wp2_with fail;go_loopw [11,9,10] (fun i ov hv wr=>∃(mm y:Nat) (here:List UInt8) (out:List Pc) (v:Value),i=.int .i64 (y:Int)∧ov=v∧hv=.string ⟨here.toArray⟩∧y≤l.length∧l.length<mm+y∧here.length≤y∧out.length≤2*y∧R=qV l L e mm y here out∧wr.ownsRow w.heap.size 142 3 v out.length (eP out)∧Below w.heap.size w wr) (fun i _ _ _=>e-(intOf i).toNat)
  case atStart=>exact⟨l.length+1,x0,[],[],_,rfl,rfl,rfl,hx0,by omega,by simp,by simp,H.out.2.1,bV _ _ _ _,aD _ _⟩
  case round=>
    obtain⟨mm,y,here,out,v,rfl,rfl,rfl,hyl,hmm,hhl,hol,hRR,hown,hb⟩:=hrel;obtain⟨mm,rfl⟩:∃m',mm=m'+1:=⟨mm-1,by omega⟩;obtain⟨A1,n1,c1,hv⟩:=dR hown;subst hv;have hn1:=eF hown;subst hn1;unfold qV at hRR;by_cases hy:y<e
    ·have u1:(y:Int)<(e:Int):=by omega
     have u2:(0:Int)≤(y:Int):=by omega
     have u3:(y:Int)+1≤(l.length:Int):=by omega
     have u4:((y:Int)+1).toNat=y+1:=by omega
     have u5:(y:Int)≤(y:Int)+1:=by omega
     have u6:(0:Int)≤(y:Int)+1:=by omega
     have u7:IntKind.i64.wrap ((y:Int)+1)=(y:Int)+1:=aV _ (by omega);have u8:IntKind.i64.wrap ((y:Int)+2)=(y:Int)+2:=aV _ (by omega);rw[aE hy] at hRR
     cases hf:gJ L y with
     | none=>
       rw[hf] at hRR;simp only at hRR;obtain⟨S,hS⟩:∃S,S=sub l y (y+1):=⟨_,rfl⟩;have hext:(ByteArray.mk l.toArray).extract y (y+1)=⟨S.toArray⟩:=by rw[dX,hS];rfl
       have hSl:S.length≤(y+1)-y:=by have:=iJ l y (y+1);rw[hS];omega
       have hcat:ByteArray.mk here.toArray++ByteArray.mk S.toArray=⟨(here++S).toArray⟩:=ia _ _;have hclen:¬9223372036854775807<here.length+S.length:=by omega
       rw[←hS] at hRR;clear hS;have HR:=aa (ac hRR (ac hown (ac hb hf)));clear hRR hown hb hf;go_upto_region 6 with (
         (go_at_call 173;refine(gv hL y c n A _ hLl H.out.2.2 ((H.out.1.keep HR.out.2.2.1 (an _)).mono HR.out.2.2.1.size)).mono ?_;rintro e2 w2 ⟨he2,hb2⟩;rw[HR.out.2.2.2] at he2;simp only[gT] at he2;subst he2;have hk2:=Bk.new w2 79 #[.int .i64 0,.int .i64 0,.int .i64 0,.int .i64 0,.bool false];have ho2:=(dQ HR.out.2.1 hb2).alloc (.cells #[.int .i64 0,.int .i64 0,.int .i64 0,.int .i64 0,.bool false] 79);have hB2:Below w.heap.size w (w2.alloc (.cells #[.int .i64 0,.int .i64 0,.int .i64 0,.int .i64 0,.bool false] 79)):=(HR.out.2.2.1.trans (hb2.mono HR.out.2.2.1.size)).alloc (by have:=hb2.size;have:=HR.out.2.2.1.size;omega) _;obtain⟨p0,p1,p2,p3,p4⟩:=dW hk2;have hlw2:=hk2.lt;have H2:=aa (ac ho2 (ac hB2 hk2));clear hb2 ho2 hB2 hk2))
       refine bz ?_
       iterate 14
         with_reducible refine bQ (fun K hK=>?_)
         go_simp;refine hK _ _ ?_;clear hK K
       with_reducible refine cm ?_
       go_wp2_with fail;exact⟨⟨mm,y+1,here++S,out,_,by go_num,rfl,rfl,by omega,by omega,by first|omega|(simp;omega),by first|omega|(simp;omega),HR.out.1,H2.out.1,H2.out.2.1⟩,by simp[intOf];omega⟩
     | some q=>
       rw[hf] at hRR;simp only at hRR;obtain⟨_,hq1,hq2,hq3,hq4,hq5,hq6,hq7⟩:=gw hL hf;clear hq1 hq2 hq5 hq6;have k1:(y:Int)≤(ei q:Int):=by omega
       have k2:(ei q:Int)≤(l.length:Int):=by omega
       by_cases hlone:kz q y=true
       ·rw[aE hlone] at hRR;obtain⟨h12,hto⟩:q.mode=12∧ei q=y+1:=by simpa [kz] using hlone
        have Ht:=aa (show (ei q:Int)=(y:Int)+1 by omega);have Hm:=aa h12;clear h12 hto hlone;obtain⟨S,hS⟩:∃S,S=sub l y (y+1):=⟨_,rfl⟩;have hext:(ByteArray.mk l.toArray).extract y (y+1)=⟨S.toArray⟩:=by rw[dX,hS];rfl
        have hSl:S.length≤(y+1)-y:=by have:=iJ l y (y+1);rw[hS];omega
        have hcat:ByteArray.mk here.toArray++ByteArray.mk S.toArray=⟨(here++S).toArray⟩:=ia _ _;have hclen:¬9223372036854775807<here.length+S.length:=by omega
        rw[←hS] at hRR;clear hS;have HR:=aa (ac hRR (ac hown (ac hb hf)));clear hRR hown hb hf;go_upto_region 6 with (
          (go_at_call 173;refine(gv hL y c n A _ hLl H.out.2.2 ((H.out.1.keep HR.out.2.2.1 (an _)).mono HR.out.2.2.1.size)).mono ?_;rintro e2 w2 ⟨he2,hb2⟩;rw[HR.out.2.2.2] at he2;simp only[gT] at he2;rw[Hm.out] at he2;rw[Ht.out] at he2;subst he2;have hk2:=Bk.new w2 79 #[.int .i64 (12:Int),.int .i64 (y:Int),.int .i64 ((y:Int)+1),.int .i64 q.up,.bool q.op];have ho2:=(dQ HR.out.2.1 hb2).alloc (.cells #[.int .i64 (12:Int),.int .i64 (y:Int),.int .i64 ((y:Int)+1),.int .i64 q.up,.bool q.op] 79);have hB2:Below w.heap.size w (w2.alloc (.cells #[.int .i64 (12:Int),.int .i64 (y:Int),.int .i64 ((y:Int)+1),.int .i64 q.up,.bool q.op] 79)):=(HR.out.2.2.1.trans (hb2.mono HR.out.2.2.1.size)).alloc (by have:=hb2.size;have:=HR.out.2.2.1.size;omega) _;obtain⟨p0,p1,p2,p3,p4⟩:=dW hk2;have hlw2:=hk2.lt;have H2:=aa (ac ho2 (ac hB2 hk2));clear hb2 ho2 hB2 hk2))
        refine bz ?_
        iterate 14
          with_reducible refine bQ (fun K hK=>?_)
          go_simp;refine hK _ _ ?_;clear hK K
        with_reducible refine cm ?_
        go_wp2_with fail;exact⟨⟨mm,y+1,here++S,out,_,by go_num,rfl,rfl,by omega,by omega,by first|omega|(simp;omega),by first|omega|(simp;omega),HR.out.1,H2.out.1,H2.out.2.1⟩,by simp[intOf];omega⟩
       ·rw[aB hlone] at hRR;by_cases h13:q.mode=13
        ·rw[aE h13] at hRR;have Hm:=aa h13;have hq8:=hq7 h13;clear h13 hlone;by_cases h22:ei q=y+2
         ·rw[aE h22] at hRR;have Ht:=aa (show (ei q:Int)=(y:Int)+2 by omega);rw[h22] at hRR;obtain⟨d,hd⟩:∃d,l[y+1]? = some d:=⟨_,ax (by omega)⟩;have hgd:l.getD (y+1) 0=d:=by rw[aF,hd];rfl
          obtain⟨hb1,hb2⟩:=aC.1 hd;have hLk:∃h:y+1<(ByteArray.mk l.toArray).size,(ByteArray.mk l.toArray)[y+1]'h=d:=⟨hb1,hb2⟩;obtain⟨hL1,hL2⟩:=hLk;have v1:(y:Int)+1<(l.length:Int):=by omega
          have v2:(y:Int)+1≤(y:Int)+2:=by omega
          have v3:((y:Int)+2).toNat=y+2:=by omega
          have v4:(y:Int)+2≤(l.length:Int):=by omega
          have v5:(y:Int)≤(y:Int)+2:=by omega
          rw[hgd] at hRR;clear hd hgd hb2 h22;by_cases hs:uR d=true
          ·rw[aE hs] at hRR;have hc:d.toNat=36∨d.toNat=96∨d.toNat=34∨d.toNat=92:=by unfold uR at hs;simp at hs;omega
           clear hs;obtain⟨S,hS⟩:∃S,S=sub l (y+1) (y+2):=⟨_,rfl⟩;have hext:(ByteArray.mk l.toArray).extract (y+1) (y+2)=⟨S.toArray⟩:=by rw[dX,hS];rfl
           have hSl:S.length≤(y+2)-(y+1):=by have:=iJ l (y+1) (y+2);rw[hS];omega
           have hcat:ByteArray.mk here.toArray++ByteArray.mk S.toArray=⟨(here++S).toArray⟩:=ia _ _;have hclen:¬9223372036854775807<here.length+S.length:=by omega
           rw[←hS] at hRR;clear hS;have HR:=aa (ac hRR (ac hown (ac hb hf)));clear hRR hown hb hf;rcases hc with hc|hc|hc|hc
           ·have t36:((d.toNat:Int)==36)=true:=by rw[aR];omega
            clear hc;go_upto_region 6 with (
              (go_at_call 173;refine(gv hL y c n A _ hLl H.out.2.2 ((H.out.1.keep HR.out.2.2.1 (an _)).mono HR.out.2.2.1.size)).mono ?_;rintro e2 w2 ⟨he2,hb2⟩;rw[HR.out.2.2.2] at he2;simp only[gT] at he2;rw[Hm.out] at he2;rw[Ht.out] at he2;subst he2;have hk2:=Bk.new w2 79 #[.int .i64 (13:Int),.int .i64 (y:Int),.int .i64 ((y:Int)+2),.int .i64 q.up,.bool q.op];have ho2:=(dQ HR.out.2.1 hb2).alloc (.cells #[.int .i64 (13:Int),.int .i64 (y:Int),.int .i64 ((y:Int)+2),.int .i64 q.up,.bool q.op] 79);have hB2:Below w.heap.size w (w2.alloc (.cells #[.int .i64 (13:Int),.int .i64 (y:Int),.int .i64 ((y:Int)+2),.int .i64 q.up,.bool q.op] 79)):=(HR.out.2.2.1.trans (hb2.mono HR.out.2.2.1.size)).alloc (by have:=hb2.size;have:=HR.out.2.2.1.size;omega) _;obtain⟨p0,p1,p2,p3,p4⟩:=dW hk2;have hlw2:=hk2.lt;have H2:=aa (ac ho2 (ac hB2 hk2));clear hb2 ho2 hB2 hk2))
            refine bz ?_
            iterate 14
              with_reducible refine bQ (fun K hK=>?_)
              go_simp;refine hK _ _ ?_;clear hK K
            with_reducible refine cm ?_
            go_upto_region 12 with fail
            refine bz ?_
            iterate 14
              with_reducible refine bQ (fun K hK=>?_)
              go_simp;refine hK _ _ ?_;clear hK K
            with_reducible refine cm ?_
            go_wp2_with fail;exact⟨⟨mm,y+2,here++S,out,_,by go_num,rfl,rfl,by omega,by omega,by first|omega|(simp;omega),by first|omega|(simp;omega),HR.out.1,H2.out.1,H2.out.2.1⟩,by simp[intOf];omega⟩
           ·have t36:((d.toNat:Int)==36)=false:=by rw[ay];omega
            have t96:((d.toNat:Int)==96)=true:=by rw[aR];omega
            clear hc;go_upto_region 6 with (
              (go_at_call 173;refine(gv hL y c n A _ hLl H.out.2.2 ((H.out.1.keep HR.out.2.2.1 (an _)).mono HR.out.2.2.1.size)).mono ?_;rintro e2 w2 ⟨he2,hb2⟩;rw[HR.out.2.2.2] at he2;simp only[gT] at he2;rw[Hm.out] at he2;rw[Ht.out] at he2;subst he2;have hk2:=Bk.new w2 79 #[.int .i64 (13:Int),.int .i64 (y:Int),.int .i64 ((y:Int)+2),.int .i64 q.up,.bool q.op];have ho2:=(dQ HR.out.2.1 hb2).alloc (.cells #[.int .i64 (13:Int),.int .i64 (y:Int),.int .i64 ((y:Int)+2),.int .i64 q.up,.bool q.op] 79);have hB2:Below w.heap.size w (w2.alloc (.cells #[.int .i64 (13:Int),.int .i64 (y:Int),.int .i64 ((y:Int)+2),.int .i64 q.up,.bool q.op] 79)):=(HR.out.2.2.1.trans (hb2.mono HR.out.2.2.1.size)).alloc (by have:=hb2.size;have:=HR.out.2.2.1.size;omega) _;obtain⟨p0,p1,p2,p3,p4⟩:=dW hk2;have hlw2:=hk2.lt;have H2:=aa (ac ho2 (ac hB2 hk2));clear hb2 ho2 hB2 hk2))
            refine bz ?_
            iterate 14
              with_reducible refine bQ (fun K hK=>?_)
              go_simp;refine hK _ _ ?_;clear hK K
            with_reducible refine cm ?_
            go_upto_region 12 with fail
            refine bz ?_
            iterate 14
              with_reducible refine bQ (fun K hK=>?_)
              go_simp;refine hK _ _ ?_;clear hK K
            with_reducible refine cm ?_
            go_wp2_with fail;exact⟨⟨mm,y+2,here++S,out,_,by go_num,rfl,rfl,by omega,by omega,by first|omega|(simp;omega),by first|omega|(simp;omega),HR.out.1,H2.out.1,H2.out.2.1⟩,by simp[intOf];omega⟩
           ·have t36:((d.toNat:Int)==36)=false:=by rw[ay];omega
            have t96:((d.toNat:Int)==96)=false:=by rw[ay];omega
            have t34:((d.toNat:Int)==34)=true:=by rw[aR];omega
            clear hc;go_upto_region 6 with (
              (go_at_call 173;refine(gv hL y c n A _ hLl H.out.2.2 ((H.out.1.keep HR.out.2.2.1 (an _)).mono HR.out.2.2.1.size)).mono ?_;rintro e2 w2 ⟨he2,hb2⟩;rw[HR.out.2.2.2] at he2;simp only[gT] at he2;rw[Hm.out] at he2;rw[Ht.out] at he2;subst he2;have hk2:=Bk.new w2 79 #[.int .i64 (13:Int),.int .i64 (y:Int),.int .i64 ((y:Int)+2),.int .i64 q.up,.bool q.op];have ho2:=(dQ HR.out.2.1 hb2).alloc (.cells #[.int .i64 (13:Int),.int .i64 (y:Int),.int .i64 ((y:Int)+2),.int .i64 q.up,.bool q.op] 79);have hB2:Below w.heap.size w (w2.alloc (.cells #[.int .i64 (13:Int),.int .i64 (y:Int),.int .i64 ((y:Int)+2),.int .i64 q.up,.bool q.op] 79)):=(HR.out.2.2.1.trans (hb2.mono HR.out.2.2.1.size)).alloc (by have:=hb2.size;have:=HR.out.2.2.1.size;omega) _;obtain⟨p0,p1,p2,p3,p4⟩:=dW hk2;have hlw2:=hk2.lt;have H2:=aa (ac ho2 (ac hB2 hk2));clear hb2 ho2 hB2 hk2))
            refine bz ?_
            iterate 14
              with_reducible refine bQ (fun K hK=>?_)
              go_simp;refine hK _ _ ?_;clear hK K
            with_reducible refine cm ?_
            go_upto_region 12 with fail
            refine bz ?_
            iterate 14
              with_reducible refine bQ (fun K hK=>?_)
              go_simp;refine hK _ _ ?_;clear hK K
            with_reducible refine cm ?_
            go_wp2_with fail;exact⟨⟨mm,y+2,here++S,out,_,by go_num,rfl,rfl,by omega,by omega,by first|omega|(simp;omega),by first|omega|(simp;omega),HR.out.1,H2.out.1,H2.out.2.1⟩,by simp[intOf];omega⟩
           ·have t36:((d.toNat:Int)==36)=false:=by rw[ay];omega
            have t96:((d.toNat:Int)==96)=false:=by rw[ay];omega
            have t34:((d.toNat:Int)==34)=false:=by rw[ay];omega
            have t92:((d.toNat:Int)==92)=true:=by rw[aR];omega
            clear hc;go_upto_region 6 with (
              (go_at_call 173;refine(gv hL y c n A _ hLl H.out.2.2 ((H.out.1.keep HR.out.2.2.1 (an _)).mono HR.out.2.2.1.size)).mono ?_;rintro e2 w2 ⟨he2,hb2⟩;rw[HR.out.2.2.2] at he2;simp only[gT] at he2;rw[Hm.out] at he2;rw[Ht.out] at he2;subst he2;have hk2:=Bk.new w2 79 #[.int .i64 (13:Int),.int .i64 (y:Int),.int .i64 ((y:Int)+2),.int .i64 q.up,.bool q.op];have ho2:=(dQ HR.out.2.1 hb2).alloc (.cells #[.int .i64 (13:Int),.int .i64 (y:Int),.int .i64 ((y:Int)+2),.int .i64 q.up,.bool q.op] 79);have hB2:Below w.heap.size w (w2.alloc (.cells #[.int .i64 (13:Int),.int .i64 (y:Int),.int .i64 ((y:Int)+2),.int .i64 q.up,.bool q.op] 79)):=(HR.out.2.2.1.trans (hb2.mono HR.out.2.2.1.size)).alloc (by have:=hb2.size;have:=HR.out.2.2.1.size;omega) _;obtain⟨p0,p1,p2,p3,p4⟩:=dW hk2;have hlw2:=hk2.lt;have H2:=aa (ac ho2 (ac hB2 hk2));clear hb2 ho2 hB2 hk2))
            refine bz ?_
            iterate 14
              with_reducible refine bQ (fun K hK=>?_)
              go_simp;refine hK _ _ ?_;clear hK K
            with_reducible refine cm ?_
            go_upto_region 12 with fail
            refine bz ?_
            iterate 14
              with_reducible refine bQ (fun K hK=>?_)
              go_simp;refine hK _ _ ?_;clear hK K
            with_reducible refine cm ?_
            go_wp2_with fail;exact⟨⟨mm,y+2,here++S,out,_,by go_num,rfl,rfl,by omega,by omega,by first|omega|(simp;omega),by first|omega|(simp;omega),HR.out.1,H2.out.1,H2.out.2.1⟩,by simp[intOf];omega⟩
          ·rw[aB hs] at hRR;have hc:¬d.toNat=36∧¬d.toNat=96∧¬d.toNat=34∧¬d.toNat=92:=by unfold uR at hs;simp at hs;omega
           obtain⟨c36,c96,c34,c92⟩:=hc;have t36:((d.toNat:Int)==36)=false:=by rw[ay];omega
           have t96:((d.toNat:Int)==96)=false:=by rw[ay];omega
           have t34:((d.toNat:Int)==34)=false:=by rw[ay];omega
           have t92:((d.toNat:Int)==92)=false:=by rw[ay];omega
           clear hs c36 c96 c34 c92;by_cases h10:d.toNat=10
           ·rw[aE h10] at hRR;have t10:((d.toNat:Int)==10)=true:=by rw[aR];omega
            clear h10;have HR:=aa (ac hRR (ac hown (ac hb hf)));clear hRR hown hb hf;go_upto_region 6 with (
              (go_at_call 173;refine(gv hL y c n A _ hLl H.out.2.2 ((H.out.1.keep HR.out.2.2.1 (an _)).mono HR.out.2.2.1.size)).mono ?_;rintro e2 w2 ⟨he2,hb2⟩;rw[HR.out.2.2.2] at he2;simp only[gT] at he2;rw[Hm.out] at he2;rw[Ht.out] at he2;subst he2;have hk2:=Bk.new w2 79 #[.int .i64 (13:Int),.int .i64 (y:Int),.int .i64 ((y:Int)+2),.int .i64 q.up,.bool q.op];have ho2:=(dQ HR.out.2.1 hb2).alloc (.cells #[.int .i64 (13:Int),.int .i64 (y:Int),.int .i64 ((y:Int)+2),.int .i64 q.up,.bool q.op] 79);have hB2:Below w.heap.size w (w2.alloc (.cells #[.int .i64 (13:Int),.int .i64 (y:Int),.int .i64 ((y:Int)+2),.int .i64 q.up,.bool q.op] 79)):=(HR.out.2.2.1.trans (hb2.mono HR.out.2.2.1.size)).alloc (by have:=hb2.size;have:=HR.out.2.2.1.size;omega) _;obtain⟨p0,p1,p2,p3,p4⟩:=dW hk2;have hlw2:=hk2.lt;have H2:=aa (ac ho2 (ac hB2 hk2));clear hb2 ho2 hB2 hk2))
            refine bz ?_
            iterate 14
              with_reducible refine bQ (fun K hK=>?_)
              go_simp;refine hK _ _ ?_;clear hK K
            with_reducible refine cm ?_
            go_upto_region 12 with fail
            refine bz ?_
            iterate 14
              with_reducible refine bQ (fun K hK=>?_)
              go_simp;refine hK _ _ ?_;clear hK K
            with_reducible refine cm ?_
            go_wp2_with fail;exact⟨⟨mm,y+2,here,out,_,by go_num,rfl,rfl,by omega,by omega,by first|omega|(simp;omega),by first|omega|(simp;omega),HR.out.1,H2.out.1,H2.out.2.1⟩,by simp[intOf];omega⟩
           ·rw[aB h10] at hRR;have t10:((d.toNat:Int)==10)=false:=by rw[ay];omega
            clear h10;obtain⟨S,hS⟩:∃S,S=sub l y (y+2):=⟨_,rfl⟩;have hext:(ByteArray.mk l.toArray).extract y (y+2)=⟨S.toArray⟩:=by rw[dX,hS];rfl
            have hSl:S.length≤(y+2)-y:=by have:=iJ l y (y+2);rw[hS];omega
            have hcat:ByteArray.mk here.toArray++ByteArray.mk S.toArray=⟨(here++S).toArray⟩:=ia _ _;have hclen:¬9223372036854775807<here.length+S.length:=by omega
            rw[←hS] at hRR;clear hS;have HR:=aa (ac hRR (ac hown (ac hb hf)));clear hRR hown hb hf;go_upto_region 6 with (
              (go_at_call 173;refine(gv hL y c n A _ hLl H.out.2.2 ((H.out.1.keep HR.out.2.2.1 (an _)).mono HR.out.2.2.1.size)).mono ?_;rintro e2 w2 ⟨he2,hb2⟩;rw[HR.out.2.2.2] at he2;simp only[gT] at he2;rw[Hm.out] at he2;rw[Ht.out] at he2;subst he2;have hk2:=Bk.new w2 79 #[.int .i64 (13:Int),.int .i64 (y:Int),.int .i64 ((y:Int)+2),.int .i64 q.up,.bool q.op];have ho2:=(dQ HR.out.2.1 hb2).alloc (.cells #[.int .i64 (13:Int),.int .i64 (y:Int),.int .i64 ((y:Int)+2),.int .i64 q.up,.bool q.op] 79);have hB2:Below w.heap.size w (w2.alloc (.cells #[.int .i64 (13:Int),.int .i64 (y:Int),.int .i64 ((y:Int)+2),.int .i64 q.up,.bool q.op] 79)):=(HR.out.2.2.1.trans (hb2.mono HR.out.2.2.1.size)).alloc (by have:=hb2.size;have:=HR.out.2.2.1.size;omega) _;obtain⟨p0,p1,p2,p3,p4⟩:=dW hk2;have hlw2:=hk2.lt;have H2:=aa (ac ho2 (ac hB2 hk2));clear hb2 ho2 hB2 hk2))
            refine bz ?_
            iterate 14
              with_reducible refine bQ (fun K hK=>?_)
              go_simp;refine hK _ _ ?_;clear hK K
            with_reducible refine cm ?_
            go_upto_region 12 with fail
            refine bz ?_
            iterate 14
              with_reducible refine bQ (fun K hK=>?_)
              go_simp;refine hK _ _ ?_;clear hK K
            with_reducible refine cm ?_
            go_wp2_with fail;exact⟨⟨mm,y+2,here++S,out,_,by go_num,rfl,rfl,by omega,by omega,by first|omega|(simp;omega),by first|omega|(simp;omega),HR.out.1,H2.out.1,H2.out.2.1⟩,by simp[intOf];omega⟩
         ·rw[aB h22] at hRR;have t2:((ei q:Int)==(y:Int)+2)=false:=by rw[ay];omega
          have HR:=aa (ac hRR (ac hown (ac hb hf)));clear hRR hown hb hf;go_upto_region 6 with (
            (go_at_call 173;refine(gv hL y c n A _ hLl H.out.2.2 ((H.out.1.keep HR.out.2.2.1 (an _)).mono HR.out.2.2.1.size)).mono ?_;rintro e2 w2 ⟨he2,hb2⟩;rw[HR.out.2.2.2] at he2;simp only[gT] at he2;rw[Hm.out] at he2;subst he2;have hk2:=Bk.new w2 79 #[.int .i64 (13:Int),.int .i64 (y:Int),.int .i64 (ei q:Int),.int .i64 q.up,.bool q.op];have ho2:=(dQ HR.out.2.1 hb2).alloc (.cells #[.int .i64 (13:Int),.int .i64 (y:Int),.int .i64 (ei q:Int),.int .i64 q.up,.bool q.op] 79);have hB2:Below w.heap.size w (w2.alloc (.cells #[.int .i64 (13:Int),.int .i64 (y:Int),.int .i64 (ei q:Int),.int .i64 q.up,.bool q.op] 79)):=(HR.out.2.2.1.trans (hb2.mono HR.out.2.2.1.size)).alloc (by have:=hb2.size;have:=HR.out.2.2.1.size;omega) _;obtain⟨p0,p1,p2,p3,p4⟩:=dW hk2;have hlw2:=hk2.lt;have H2:=aa (ac ho2 (ac hB2 hk2));clear hb2 ho2 hB2 hk2))
          refine bz ?_
          iterate 14
            with_reducible refine bQ (fun K hK=>?_)
            go_simp;refine hK _ _ ?_;clear hK K
          with_reducible refine cm ?_
          go_wp2_with fail;exact⟨⟨mm,ei q,here,out,_,by go_num,rfl,rfl,by omega,by omega,by first|omega|(simp;omega),by first|omega|(simp;omega),HR.out.1,H2.out.1,H2.out.2.1⟩,by simp[intOf];omega⟩
        ·rw[aB h13] at hRR;have t13:(q.mode==13)=false:=by simpa using h13
         obtain⟨S,hS⟩:∃S,S=sub l y (ei q):=⟨_,rfl⟩;have hext:(ByteArray.mk l.toArray).extract y (ei q)=⟨S.toArray⟩:=by rw[dX,hS];rfl
         rw[←hS] at hRR;clear hS;have h12:q.mode=12→¬ei q=y+1:=fun h1 h2=>hlone (by unfold kz;simp[h1,h2])
         clear hlone h13;by_cases hm12:q.mode=12
         ·have t12:(q.mode==12)=true:=by simpa using hm12
          have t2:((ei q:Int)==(y:Int)+1)=false:=by have:=h12 hm12;rw[ay];omega
          clear hm12 h12
          cases here with
          | nil=>
            rw[aE rfl] at hRR;have HR:=aa (ac hRR (ac hown (ac hb hf)));clear hRR hown hb hf;go_upto_region 6 with (
              (go_at_call 173;refine(gv hL y c n A _ hLl H.out.2.2 ((H.out.1.keep HR.out.2.2.1 (an _)).mono HR.out.2.2.1.size)).mono ?_;rintro e2 w2 ⟨he2,hb2⟩;rw[HR.out.2.2.2] at he2;simp only[gT] at he2;subst he2;have hk2:=Bk.new w2 79 #[.int .i64 q.mode,.int .i64 (y:Int),.int .i64 (ei q:Int),.int .i64 q.up,.bool q.op];have ho2:=(dQ HR.out.2.1 hb2).alloc (.cells #[.int .i64 q.mode,.int .i64 (y:Int),.int .i64 (ei q:Int),.int .i64 q.up,.bool q.op] 79);have hB2:Below w.heap.size w (w2.alloc (.cells #[.int .i64 q.mode,.int .i64 (y:Int),.int .i64 (ei q:Int),.int .i64 q.up,.bool q.op] 79)):=(HR.out.2.2.1.trans (hb2.mono HR.out.2.2.1.size)).alloc (by have:=hb2.size;have:=HR.out.2.2.1.size;omega) _;obtain⟨p0,p1,p2,p3,p4⟩:=dW hk2;have hlw2:=hk2.lt;have H2:=aa (ac ho2 (ac hB2 hk2));clear hb2 ho2 hB2 hk2))
            refine bz ?_
            iterate 14
              with_reducible refine bQ (fun K hK=>?_)
              go_simp;refine hK _ _ ?_;clear hK K
            with_reducible refine cm ?_
            go_wp2_with (first
              | (at_builtin
                 refine dY rfl (.tmp 100) (.tmp 107) 139 rfl w.heap.size 142 i0 _ 3 24 Tryz.underlying139 hi0 hz0 hz1 hz2 rfl (by decide) (.slice A1 out.length c1) out.length (eP out) rfl (H2.out.1.alloc _) (.slice (some ⟨w2.heap.size+1,0,none⟩) 1 1) 1 ((w2.heap.size+1)+1) (eP [⟨true,true,S⟩]) rfl (iP _ (((w2.heap.size+1))) (by simp) (eP [⟨true,true,S⟩]) 142 3 1 rfl (by omega)) (fH _) (by unfold maxLen;omega) (by omega) (by have:=H2.out.2.1.size;simp at this ⊢;omega) ?_;intro v5 w5 hown5 hg5 hv5;have hb5:Below w.heap.size w w5:=(H2.out.2.1.alloc (by have:=H2.out.2.1.size;simp at this ⊢;omega) _).grown hg5 (by have:=H2.out.2.1.size;simp at this ⊢;omega) (fun k hk=>(H2.out.1.lt k hk).1);have hk5:=(H2.out.2.2.alloc (.cells (eP [⟨true,true,S⟩]).toArray 142)).grown hg5 (eK H2.out.1 H2.out.2.2 (by decide)).symm;obtain⟨s0,s1,s2,s3,s4⟩:=dW hk5;have H5:=aa (ac hown5 (ac hb5 hk5));clear hown5 hg5 hv5 hb5 hk5))
            exact⟨⟨mm,ei q,[],out++[⟨true,true,S⟩],_,rfl,rfl,rfl,by omega,by omega,by simp,by simp;omega,HR.out.1,by rw[fS,aH];exact H5.out.1,H5.out.2.1⟩,by simp[intOf];omega⟩
          | cons a r=>
            rw[aB (by simp)] at hRR;have HR:=aa (ac hRR (ac hown (ac hb hf)));clear hRR hown hb hf;go_upto_region 6 with (
              (go_at_call 173;refine(gv hL y c n A _ hLl H.out.2.2 ((H.out.1.keep HR.out.2.2.1 (an _)).mono HR.out.2.2.1.size)).mono ?_;rintro e2 w2 ⟨he2,hb2⟩;rw[HR.out.2.2.2] at he2;simp only[gT] at he2;subst he2;have hk2:=Bk.new w2 79 #[.int .i64 q.mode,.int .i64 (y:Int),.int .i64 (ei q:Int),.int .i64 q.up,.bool q.op];have ho2:=(dQ HR.out.2.1 hb2).alloc (.cells #[.int .i64 q.mode,.int .i64 (y:Int),.int .i64 (ei q:Int),.int .i64 q.up,.bool q.op] 79);have hB2:Below w.heap.size w (w2.alloc (.cells #[.int .i64 q.mode,.int .i64 (y:Int),.int .i64 (ei q:Int),.int .i64 q.up,.bool q.op] 79)):=(HR.out.2.2.1.trans (hb2.mono HR.out.2.2.1.size)).alloc (by have:=hb2.size;have:=HR.out.2.2.1.size;omega) _;obtain⟨p0,p1,p2,p3,p4⟩:=dW hk2;have hlw2:=hk2.lt;have H2:=aa (ac ho2 (ac hB2 hk2));clear hb2 ho2 hB2 hk2))
            refine bz ?_
            iterate 14
              with_reducible refine bQ (fun K hK=>?_)
              go_simp;refine hK _ _ ?_;clear hK K
            with_reducible refine cm ?_
            go_wp2_with (first
              | (at_builtin
                 refine dY rfl (.tmp 95) (.tmp 98) 139 rfl w.heap.size 142 i0 _ 3 24 Tryz.underlying139 hi0 hz0 hz1 hz2 rfl (by decide) (.slice A1 out.length c1) out.length (eP out) rfl (H2.out.1.alloc _) (.slice (some ⟨w2.heap.size+1,0,none⟩) 1 1) 1 ((w2.heap.size+1)+1) (eP [⟨false,true,a::r⟩]) rfl (iP _ (((w2.heap.size+1))) (by simp) (eP [⟨false,true,a::r⟩]) 142 3 1 rfl (by omega)) (fH _) (by unfold maxLen;omega) (by omega) (by have:=H2.out.2.1.size;simp at this ⊢;omega) ?_;intro v4 w4 hown4 hg4 hv4;have hb4:Below w.heap.size w w4:=(H2.out.2.1.alloc (by have:=H2.out.2.1.size;simp at this ⊢;omega) _).grown hg4 (by have:=H2.out.2.1.size;simp at this ⊢;omega) (fun k hk=>(H2.out.1.lt k hk).1);have hk4:=(H2.out.2.2.alloc (.cells (eP [⟨false,true,a::r⟩]).toArray 142)).grown hg4 (eK H2.out.1 H2.out.2.2 (by decide)).symm;obtain⟨s0,s1,s2,s3,s4⟩:=dW hk4;have H4:=aa (ac hown4 (ac hb4 hk4));clear hown4 hg4 hv4 hb4 hk4)
              | (at_builtin
                 refine dY rfl (.tmp 100) (.tmp 107) 139 rfl w.heap.size 142 i0 _ 3 24 Tryz.underlying139 hi0 hz0 hz1 hz2 rfl (by decide) v4 (out.length+1) (eP out++eP [⟨false,true,a::r⟩]) rfl (H4.out.1.alloc _) (.slice (some ⟨w4.heap.size,0,none⟩) 1 1) 1 (w4.heap.size+1) (eP [⟨true,true,S⟩]) rfl (iP _ ((w4.heap.size)) (by simp) (eP [⟨true,true,S⟩]) 142 3 1 rfl (by omega)) (fH _) (by unfold maxLen;omega) (by omega) (by have:=H4.out.2.1.size;simp at this ⊢;omega) ?_;intro v5 w5 hown5 hg5 hv5;have hb5:Below w.heap.size w w5:=(H4.out.2.1.alloc (by have:=H4.out.2.1.size;simp at this ⊢;omega) _).grown hg5 (by have:=H4.out.2.1.size;simp at this ⊢;omega) (fun k hk=>(H4.out.1.lt k hk).1);have hk5:=(H4.out.2.2.alloc (.cells (eP [⟨true,true,S⟩]).toArray 142)).grown hg5 (eK H4.out.1 H4.out.2.2 (by decide)).symm;obtain⟨s0,s1,s2,s3,s4⟩:=dW hk5;have H5:=aa (ac hown5 (ac hb5 hk5));clear hown5 hg5 hv5 hb5 hk5))
            exact⟨⟨mm,ei q,[],out++[⟨false,true,a::r⟩]++[⟨true,true,S⟩],_,rfl,rfl,rfl,by omega,by omega,by simp,by simp at hhl ⊢;omega,HR.out.1,by rw[fS,fS,aH,aH];exact H5.out.1,H5.out.2.1⟩,by simp[intOf];omega⟩
         ·have t12:(q.mode==12)=false:=by simpa using hm12
          clear hm12 h12
          cases here with
          | nil=>
            rw[aE rfl] at hRR;have HR:=aa (ac hRR (ac hown (ac hb hf)));clear hRR hown hb hf;go_upto_region 6 with (
              (go_at_call 173;refine(gv hL y c n A _ hLl H.out.2.2 ((H.out.1.keep HR.out.2.2.1 (an _)).mono HR.out.2.2.1.size)).mono ?_;rintro e2 w2 ⟨he2,hb2⟩;rw[HR.out.2.2.2] at he2;simp only[gT] at he2;subst he2;have hk2:=Bk.new w2 79 #[.int .i64 q.mode,.int .i64 (y:Int),.int .i64 (ei q:Int),.int .i64 q.up,.bool q.op];have ho2:=(dQ HR.out.2.1 hb2).alloc (.cells #[.int .i64 q.mode,.int .i64 (y:Int),.int .i64 (ei q:Int),.int .i64 q.up,.bool q.op] 79);have hB2:Below w.heap.size w (w2.alloc (.cells #[.int .i64 q.mode,.int .i64 (y:Int),.int .i64 (ei q:Int),.int .i64 q.up,.bool q.op] 79)):=(HR.out.2.2.1.trans (hb2.mono HR.out.2.2.1.size)).alloc (by have:=hb2.size;have:=HR.out.2.2.1.size;omega) _;obtain⟨p0,p1,p2,p3,p4⟩:=dW hk2;have hlw2:=hk2.lt;have H2:=aa (ac ho2 (ac hB2 hk2));clear hb2 ho2 hB2 hk2))
            refine bz ?_
            iterate 14
              with_reducible refine bQ (fun K hK=>?_)
              go_simp;refine hK _ _ ?_;clear hK K
            with_reducible refine cm ?_
            go_wp2_with (first
              | (at_builtin
                 refine dY rfl (.tmp 100) (.tmp 107) 139 rfl w.heap.size 142 i0 _ 3 24 Tryz.underlying139 hi0 hz0 hz1 hz2 rfl (by decide) (.slice A1 out.length c1) out.length (eP out) rfl (H2.out.1.alloc _) (.slice (some ⟨w2.heap.size+1,0,none⟩) 1 1) 1 ((w2.heap.size+1)+1) (eP [⟨true,true,S⟩]) rfl (iP _ (((w2.heap.size+1))) (by simp) (eP [⟨true,true,S⟩]) 142 3 1 rfl (by omega)) (fH _) (by unfold maxLen;omega) (by omega) (by have:=H2.out.2.1.size;simp at this ⊢;omega) ?_;intro v5 w5 hown5 hg5 hv5;have hb5:Below w.heap.size w w5:=(H2.out.2.1.alloc (by have:=H2.out.2.1.size;simp at this ⊢;omega) _).grown hg5 (by have:=H2.out.2.1.size;simp at this ⊢;omega) (fun k hk=>(H2.out.1.lt k hk).1);have hk5:=(H2.out.2.2.alloc (.cells (eP [⟨true,true,S⟩]).toArray 142)).grown hg5 (eK H2.out.1 H2.out.2.2 (by decide)).symm;obtain⟨s0,s1,s2,s3,s4⟩:=dW hk5;have H5:=aa (ac hown5 (ac hb5 hk5));clear hown5 hg5 hv5 hb5 hk5))
            exact⟨⟨mm,ei q,[],out++[⟨true,true,S⟩],_,rfl,rfl,rfl,by omega,by omega,by simp,by simp;omega,HR.out.1,by rw[fS,aH];exact H5.out.1,H5.out.2.1⟩,by simp[intOf];omega⟩
          | cons a r=>
            rw[aB (by simp)] at hRR;have HR:=aa (ac hRR (ac hown (ac hb hf)));clear hRR hown hb hf;go_upto_region 6 with (
              (go_at_call 173;refine(gv hL y c n A _ hLl H.out.2.2 ((H.out.1.keep HR.out.2.2.1 (an _)).mono HR.out.2.2.1.size)).mono ?_;rintro e2 w2 ⟨he2,hb2⟩;rw[HR.out.2.2.2] at he2;simp only[gT] at he2;subst he2;have hk2:=Bk.new w2 79 #[.int .i64 q.mode,.int .i64 (y:Int),.int .i64 (ei q:Int),.int .i64 q.up,.bool q.op];have ho2:=(dQ HR.out.2.1 hb2).alloc (.cells #[.int .i64 q.mode,.int .i64 (y:Int),.int .i64 (ei q:Int),.int .i64 q.up,.bool q.op] 79);have hB2:Below w.heap.size w (w2.alloc (.cells #[.int .i64 q.mode,.int .i64 (y:Int),.int .i64 (ei q:Int),.int .i64 q.up,.bool q.op] 79)):=(HR.out.2.2.1.trans (hb2.mono HR.out.2.2.1.size)).alloc (by have:=hb2.size;have:=HR.out.2.2.1.size;omega) _;obtain⟨p0,p1,p2,p3,p4⟩:=dW hk2;have hlw2:=hk2.lt;have H2:=aa (ac ho2 (ac hB2 hk2));clear hb2 ho2 hB2 hk2))
            refine bz ?_
            iterate 14
              with_reducible refine bQ (fun K hK=>?_)
              go_simp;refine hK _ _ ?_;clear hK K
            with_reducible refine cm ?_
            go_wp2_with (first
              | (at_builtin
                 refine dY rfl (.tmp 95) (.tmp 98) 139 rfl w.heap.size 142 i0 _ 3 24 Tryz.underlying139 hi0 hz0 hz1 hz2 rfl (by decide) (.slice A1 out.length c1) out.length (eP out) rfl (H2.out.1.alloc _) (.slice (some ⟨w2.heap.size+1,0,none⟩) 1 1) 1 ((w2.heap.size+1)+1) (eP [⟨false,true,a::r⟩]) rfl (iP _ (((w2.heap.size+1))) (by simp) (eP [⟨false,true,a::r⟩]) 142 3 1 rfl (by omega)) (fH _) (by unfold maxLen;omega) (by omega) (by have:=H2.out.2.1.size;simp at this ⊢;omega) ?_;intro v4 w4 hown4 hg4 hv4;have hb4:Below w.heap.size w w4:=(H2.out.2.1.alloc (by have:=H2.out.2.1.size;simp at this ⊢;omega) _).grown hg4 (by have:=H2.out.2.1.size;simp at this ⊢;omega) (fun k hk=>(H2.out.1.lt k hk).1);have hk4:=(H2.out.2.2.alloc (.cells (eP [⟨false,true,a::r⟩]).toArray 142)).grown hg4 (eK H2.out.1 H2.out.2.2 (by decide)).symm;obtain⟨s0,s1,s2,s3,s4⟩:=dW hk4;have H4:=aa (ac hown4 (ac hb4 hk4));clear hown4 hg4 hv4 hb4 hk4)
              | (at_builtin
                 refine dY rfl (.tmp 100) (.tmp 107) 139 rfl w.heap.size 142 i0 _ 3 24 Tryz.underlying139 hi0 hz0 hz1 hz2 rfl (by decide) v4 (out.length+1) (eP out++eP [⟨false,true,a::r⟩]) rfl (H4.out.1.alloc _) (.slice (some ⟨w4.heap.size,0,none⟩) 1 1) 1 (w4.heap.size+1) (eP [⟨true,true,S⟩]) rfl (iP _ ((w4.heap.size)) (by simp) (eP [⟨true,true,S⟩]) 142 3 1 rfl (by omega)) (fH _) (by unfold maxLen;omega) (by omega) (by have:=H4.out.2.1.size;simp at this ⊢;omega) ?_;intro v5 w5 hown5 hg5 hv5;have hb5:Below w.heap.size w w5:=(H4.out.2.1.alloc (by have:=H4.out.2.1.size;simp at this ⊢;omega) _).grown hg5 (by have:=H4.out.2.1.size;simp at this ⊢;omega) (fun k hk=>(H4.out.1.lt k hk).1);have hk5:=(H4.out.2.2.alloc (.cells (eP [⟨true,true,S⟩]).toArray 142)).grown hg5 (eK H4.out.1 H4.out.2.2 (by decide)).symm;obtain⟨s0,s1,s2,s3,s4⟩:=dW hk5;have H5:=aa (ac hown5 (ac hb5 hk5));clear hown5 hg5 hv5 hb5 hk5))
            exact⟨⟨mm,ei q,[],out++[⟨false,true,a::r⟩]++[⟨true,true,S⟩],_,rfl,rfl,rfl,by omega,by omega,by simp,by simp at hhl ⊢;omega,HR.out.1,by rw[fS,fS,aH,aH];exact H5.out.1,H5.out.2.1⟩,by simp[intOf];omega⟩
    ·have u1:¬(y:Int)<(e:Int):=by omega
     rw[aB hy] at hRR
     cases here with
     | nil=>
       cases out with
       | nil=>
         rw[aB (by simp)] at hRR;have HR:=aa (ac hRR (ac hown hb));clear hRR hown hb
         go_wp2_with (first
           | (at_builtin
              refine dY rfl (.tmp 118) (.tmp 121) 139 rfl w.heap.size 142 i0 _ 3 24 Tryz.underlying139 hi0 hz0 hz1 hz2 rfl (by decide) (.slice A1 0 c1) 0 [] rfl (HR.out.2.1.alloc _) (.slice (some ⟨wr.heap.size,0,none⟩) 1 1) 1 (wr.heap.size+1) (eP [⟨false,true,[]⟩]) rfl (iP _ ((wr.heap.size)) (by simp) (eP [⟨false,true,[]⟩]) 142 3 1 rfl (by omega)) (fH _) (by unfold maxLen;omega) (by omega) (by have:=HR.out.2.2.size;simp at this ⊢;omega) ?_;intro v5 w5 hown5 hg5 hv5;have hb5:Below w.heap.size w w5:=(HR.out.2.2.alloc (by have:=HR.out.2.2.size;simp at this ⊢;omega) _).grown hg5 (by have:=HR.out.2.2.size;simp at this ⊢;omega) (fun k hk=>(HR.out.2.1.lt k hk).1);have H5:=aa (ac hown5 (ac hb5 trivial));clear hown5 hg5 hv5 hb5))
         go_ret;exact⟨v5,rfl,by rw[HR.out.1];simpa [fS] using H5.out.1,H5.out.2.1⟩
       | cons p ps=>
         rw[aE ⟨rfl,by simp⟩] at hRR;have t0:(((ps.length:Int)+1)==0)=false:=by rw[ay];omega
         have HR:=aa (ac hRR (ac hown hb));clear hRR hown hb;go_wp2_with fail;go_ret;exact⟨_,rfl,by rw[HR.out.1];exact HR.out.2.1,HR.out.2.2⟩
     | cons a r=>
       rw[aB (by simp)] at hRR;have HR:=aa (ac hRR (ac hown hb));clear hRR hown hb
       go_wp2_with (first
         | (at_builtin
            refine dY rfl (.tmp 118) (.tmp 121) 139 rfl w.heap.size 142 i0 _ 3 24 Tryz.underlying139 hi0 hz0 hz1 hz2 rfl (by decide) (.slice A1 out.length c1) out.length (eP out) rfl (HR.out.2.1.alloc _) (.slice (some ⟨wr.heap.size,0,none⟩) 1 1) 1 (wr.heap.size+1) (eP [⟨false,true,a::r⟩]) rfl (iP _ ((wr.heap.size)) (by simp) (eP [⟨false,true,a::r⟩]) 142 3 1 rfl (by omega)) (fH _) (by unfold maxLen;omega) (by omega) (by have:=HR.out.2.2.size;simp at this ⊢;omega) ?_;intro v5 w5 hown5 hg5 hv5;have hb5:Below w.heap.size w w5:=(HR.out.2.2.alloc (by have:=HR.out.2.2.size;simp at this ⊢;omega) _).grown hg5 (by have:=HR.out.2.2.size;simp at this ⊢;omega) (fun k hk=>(HR.out.2.1.lt k hk).1);have H5:=aa (ac hown5 (ac hb5 trivial));clear hown5 hg5 hv5 hb5))
       go_ret;exact⟨v5,rfl,by rw[HR.out.1];simpa [fS] using H5.out.1,H5.out.2.1⟩
end Go.Proofs.YtcagfamdoaoimaaGreatDoor
