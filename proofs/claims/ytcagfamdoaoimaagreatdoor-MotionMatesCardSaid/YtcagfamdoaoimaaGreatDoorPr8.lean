/- quillwortref08.Double: the pieces of a Double's inside. -/
import Derived.Test.YtcagfamdoaoimaaGreatDoorRg8
import Derived.Test.YtcagfamdoaoimaaGreatDoorLa9
import Derived.Test.YtcagfamdoaoimaaGreatDoorFl8
import Derived.Test.YtcagfamdoaoimaaGreatDoorOf8
import Derived.Deep.DeepCutAuto
import Derived.Deep.CutBlock
set_option linter.unusedVariables false
set_option linter.unusedSimpArgs false
set_option maxRecDepth 100000
set_option maxHeartbeats 8000000
namespace Go.Proofs.YtcagfamdoaoimaaGreatDoor
open Go.RowKit
def iU (o:Option fh) (x:Nat):Value:=match o with
  | none=>.tuple #[.agg #[.int .i64 0,.int .i64 0,.int .i64 0,.int .i64 0,.bool false],.int .i64 0]
  | some q=>.tuple #[.agg #[.int .i64 q.mode,.int .i64 (x:Int),.int .i64 (eA q:Int),.int .i64 q.up,.bool q.op],.int .i64 1]
theorem ii {l:List UInt8} {L:List fh} (hP:PL l L) (x c n:Nat) (A:Option Addr) (w:World) (hL:L.length≤100000) (hn:n=L.length) (hr:Rd w w.heap.size 5 (.slice A n c) n (fw L)) :
    jL 173 #[.slice A n c,.int .i64 (x:Int)] w (iU (gE L x) x):=by
  have e:iU (gE L x) x=ux (gE L x):=by
    cases hf:gE L x with
    | none=>rfl
    | some q=>
      obtain⟨_,h1,h2,_⟩:=gv hP hf;unfold iU ux tu;simp only[h1];rw[←h2]
  rw[e];exact LX L x c n A w hL hn hr
theorem lL (w:World) (k:Nat) (hk:w.heap.size=k) (cs:List Value) (t:TypeId) (sz m:Nat) (hl:cs.length=m*sz) (hm:m≤1000):Rd (w.alloc (.cells cs.toArray t)) (k+1) sz (.slice (some ⟨k,0,none⟩) m m) m cs:=by
  subst hk;exact fQ w cs t sz m hl hm
theorem GZ (l:List UInt8) (L:List fh) (hL:PL l L) (x0 e n c:Nat) (A:Option Addr) (w:World) (hl:l.length≤900) (hLl:L.length≤100000) (hn:n=L.length) (hr:Rd w w.heap.size 5 (.slice A n c) n (fw L)) (hx0:x0≤l.length) (he:e≤l.length) (R:List Pc) (hR:R=qN l L e (l.length+1) x0 [] []) :
    Calls Tryz.prog 175 #[.string ⟨l.toArray⟩,.slice A n c,.int .i64 (x0:Int),.int .i64 (e:Int)] w fun e' w'=>∃v,e'=.returned v∧w'.ownsRow w.heap.size 142 3 v R.length (fm R)∧Below w.heap.size w w':=by
  obtain⟨i0,hi0,hz0,hz1,hz2⟩:=cD Tryz.infoPiece;have H:=aa (ac hr (ac hR hn));clear hr hR hn;go_enter Tryz.func175,Tryz.ntmps175;go_wp2_with fail;go_loopw [11,9,10] (fun i ov hv wr=>∃(mm y:Nat) (here:List UInt8) (out:List Pc) (v:Value),i=.int .i64 (y:Int)∧ov=v∧hv=.string ⟨here.toArray⟩∧y≤l.length∧l.length<mm+y∧here.length≤y∧out.length≤2*y∧R=qN l L e mm y here out∧wr.ownsRow w.heap.size 142 3 v out.length (fm out)∧Below w.heap.size w wr) (fun i _ _ _=>e-(intOf i).toNat)
  case atStart=>exact⟨l.length+1,x0,[],[],_,rfl,rfl,rfl,hx0,by omega,by simp,by simp,H.out.2.1,cj _ _ _ _,aC _ _⟩
  case round=>
    obtain⟨mm,y,here,out,v,rfl,rfl,rfl,hyl,hmm,hhl,hol,hRR,hown,hb⟩:=hrel;obtain⟨mm,rfl⟩:∃m',mm=m'+1:=⟨mm-1,by omega⟩;obtain⟨A1,n1,c1,hv⟩:=dR hown;subst hv;have hn1:=ei hown;subst hn1;unfold qN at hRR;by_cases hy:y<e
    ·have u1:(y:Int)<(e:Int):=by omega
     have u2:(0:Int)≤(y:Int):=by omega
     have u3:(y:Int)+1≤(l.length:Int):=by omega
     have u4:((y:Int)+1).toNat=y+1:=by omega
     have u5:(y:Int)≤(y:Int)+1:=by omega
     have u6:(0:Int)≤(y:Int)+1:=by omega
     have u7:IntKind.i64.wrap ((y:Int)+1)=(y:Int)+1:=aS _ (by omega);have u8:IntKind.i64.wrap ((y:Int)+2)=(y:Int)+2:=aS _ (by omega);rw[aD hy] at hRR
     cases hf:gE L y with
     | none=>
       rw[hf] at hRR;simp only at hRR;obtain⟨S,hS⟩:∃S,S=sub l y (y+1):=⟨_,rfl⟩;have hext:(ByteArray.mk l.toArray).extract y (y+1)=⟨S.toArray⟩:=by rw[dX,hS];rfl
       have hSl:S.length≤(y+1)-y:=by have:=iI l y (y+1);rw[hS];omega
       have hcat:ByteArray.mk here.toArray++ByteArray.mk S.toArray=⟨(here++S).toArray⟩:=gY _ _;have hclen:¬9223372036854775807<here.length+S.length:=by omega
       rw[←hS] at hRR;clear hS;have HR:=aa (ac hRR (ac hown (ac hb hf)));clear hRR hown hb hf;go_upto_region 6 with (
         (go_at_call 173;refine(ii hL y c n A _ hLl H.out.2.2 ((H.out.1.keep HR.out.2.2.1 (au _)).mono HR.out.2.2.1.size)).mono ?_;rintro e2 w2 ⟨he2,hb2⟩;rw[HR.out.2.2.2] at he2;simp only[iU] at he2;subst he2;have hk2:=Bk.new w2 79 #[.int .i64 0,.int .i64 0,.int .i64 0,.int .i64 0,.bool false];have ho2:=(dS HR.out.2.1 hb2).alloc (.cells #[.int .i64 0,.int .i64 0,.int .i64 0,.int .i64 0,.bool false] 79);have hB2:Below w.heap.size w (w2.alloc (.cells #[.int .i64 0,.int .i64 0,.int .i64 0,.int .i64 0,.bool false] 79)):=(HR.out.2.2.1.trans (hb2.mono HR.out.2.2.1.size)).alloc (by have:=hb2.size;have:=HR.out.2.2.1.size;omega) _;obtain⟨p0,p1,p2,p3,p4⟩:=ej hk2;have hlw2:=hk2.lt;have H2:=aa (ac ho2 (ac hB2 hk2));clear hb2 ho2 hB2 hk2))
       refine cx ?_
       iterate 14
         with_reducible refine cJ (fun K hK=>?_)
         go_simp;refine hK _ _ ?_;clear hK K
       with_reducible refine cT ?_
       go_wp2_with fail;exact⟨⟨mm,y+1,here++S,out,_,by go_num,rfl,rfl,by omega,by omega,by first|omega|(simp;omega),by first|omega|(simp;omega),HR.out.1,H2.out.1,H2.out.2.1⟩,by simp[intOf];omega⟩
     | some q=>
       rw[hf] at hRR;simp only at hRR;obtain⟨_,hq1,hq2,hq3,hq4,hq5,hq6,hq7⟩:=gv hL hf;clear hq1 hq2 hq5 hq6;have k1:(y:Int)≤(eA q:Int):=by omega
       have k2:(eA q:Int)≤(l.length:Int):=by omega
       by_cases hlone:jY q y=true
       ·rw[aD hlone] at hRR;obtain⟨h12,hto⟩:q.mode=12∧eA q=y+1:=by simpa [jY] using hlone
        have Ht:=aa (show (eA q:Int)=(y:Int)+1 by omega);have Hm:=aa h12;clear h12 hto hlone;obtain⟨S,hS⟩:∃S,S=sub l y (y+1):=⟨_,rfl⟩;have hext:(ByteArray.mk l.toArray).extract y (y+1)=⟨S.toArray⟩:=by rw[dX,hS];rfl
        have hSl:S.length≤(y+1)-y:=by have:=iI l y (y+1);rw[hS];omega
        have hcat:ByteArray.mk here.toArray++ByteArray.mk S.toArray=⟨(here++S).toArray⟩:=gY _ _;have hclen:¬9223372036854775807<here.length+S.length:=by omega
        rw[←hS] at hRR;clear hS;have HR:=aa (ac hRR (ac hown (ac hb hf)));clear hRR hown hb hf;go_upto_region 6 with (
          (go_at_call 173;refine(ii hL y c n A _ hLl H.out.2.2 ((H.out.1.keep HR.out.2.2.1 (au _)).mono HR.out.2.2.1.size)).mono ?_;rintro e2 w2 ⟨he2,hb2⟩;rw[HR.out.2.2.2] at he2;simp only[iU] at he2;rw[Hm.out] at he2;rw[Ht.out] at he2;subst he2;have hk2:=Bk.new w2 79 #[.int .i64 (12:Int),.int .i64 (y:Int),.int .i64 ((y:Int)+1),.int .i64 q.up,.bool q.op];have ho2:=(dS HR.out.2.1 hb2).alloc (.cells #[.int .i64 (12:Int),.int .i64 (y:Int),.int .i64 ((y:Int)+1),.int .i64 q.up,.bool q.op] 79);have hB2:Below w.heap.size w (w2.alloc (.cells #[.int .i64 (12:Int),.int .i64 (y:Int),.int .i64 ((y:Int)+1),.int .i64 q.up,.bool q.op] 79)):=(HR.out.2.2.1.trans (hb2.mono HR.out.2.2.1.size)).alloc (by have:=hb2.size;have:=HR.out.2.2.1.size;omega) _;obtain⟨p0,p1,p2,p3,p4⟩:=ej hk2;have hlw2:=hk2.lt;have H2:=aa (ac ho2 (ac hB2 hk2));clear hb2 ho2 hB2 hk2))
        refine cx ?_
        iterate 14
          with_reducible refine cJ (fun K hK=>?_)
          go_simp;refine hK _ _ ?_;clear hK K
        with_reducible refine cT ?_
        go_wp2_with fail;exact⟨⟨mm,y+1,here++S,out,_,by go_num,rfl,rfl,by omega,by omega,by first|omega|(simp;omega),by first|omega|(simp;omega),HR.out.1,H2.out.1,H2.out.2.1⟩,by simp[intOf];omega⟩
       ·rw[aB hlone] at hRR;by_cases h13:q.mode=13
        ·rw[aD h13] at hRR;have Hm:=aa h13;have hq8:=hq7 h13;clear h13 hlone;by_cases h22:eA q=y+2
         ·rw[aD h22] at hRR;have Ht:=aa (show (eA q:Int)=(y:Int)+2 by omega);rw[h22] at hRR;obtain⟨d,hd⟩:∃d,l[y+1]? = some d:=⟨_,ax (by omega)⟩;have hgd:l.getD (y+1) 0=d:=by rw[aE,hd];rfl
          obtain⟨hb1,hb2⟩:=ay.1 hd;have hLk:∃h:y+1<(ByteArray.mk l.toArray).size,(ByteArray.mk l.toArray)[y+1]'h=d:=⟨hb1,hb2⟩;obtain⟨hL1,hL2⟩:=hLk;have v1:(y:Int)+1<(l.length:Int):=by omega
          have v2:(y:Int)+1≤(y:Int)+2:=by omega
          have v3:((y:Int)+2).toNat=y+2:=by omega
          have v4:(y:Int)+2≤(l.length:Int):=by omega
          have v5:(y:Int)≤(y:Int)+2:=by omega
          rw[hgd] at hRR;clear hd hgd hb2 h22;by_cases hs:uW d=true
          ·rw[aD hs] at hRR;have hc:d.toNat=36∨d.toNat=96∨d.toNat=34∨d.toNat=92:=by unfold uW at hs;simp at hs;omega
           clear hs;obtain⟨S,hS⟩:∃S,S=sub l (y+1) (y+2):=⟨_,rfl⟩;have hext:(ByteArray.mk l.toArray).extract (y+1) (y+2)=⟨S.toArray⟩:=by rw[dX,hS];rfl
           have hSl:S.length≤(y+2)-(y+1):=by have:=iI l (y+1) (y+2);rw[hS];omega
           have hcat:ByteArray.mk here.toArray++ByteArray.mk S.toArray=⟨(here++S).toArray⟩:=gY _ _;have hclen:¬9223372036854775807<here.length+S.length:=by omega
           rw[←hS] at hRR;clear hS;have HR:=aa (ac hRR (ac hown (ac hb hf)));clear hRR hown hb hf;rcases hc with hc|hc|hc|hc
           have t36:((d.toNat:Int)==36)=true:=by rw[aR];omega
           rotate_left
           have t36:((d.toNat:Int)==36)=false:=by rw[az];omega
           have t96:((d.toNat:Int)==96)=true:=by rw[aR];omega
           rotate_left
           have t36:((d.toNat:Int)==36)=false:=by rw[az];omega
           have t96:((d.toNat:Int)==96)=false:=by rw[az];omega
           have t34:((d.toNat:Int)==34)=true:=by rw[aR];omega
           rotate_left
           have t36:((d.toNat:Int)==36)=false:=by rw[az];omega
           have t96:((d.toNat:Int)==96)=false:=by rw[az];omega
           have t34:((d.toNat:Int)==34)=false:=by rw[az];omega
           have t92:((d.toNat:Int)==92)=true:=by rw[aR];omega
           rotate_left
           all_goals (
             clear hc;go_upto_region 6 with (
               (go_at_call 173;refine(ii hL y c n A _ hLl H.out.2.2 ((H.out.1.keep HR.out.2.2.1 (au _)).mono HR.out.2.2.1.size)).mono ?_;rintro e2 w2 ⟨he2,hb2⟩;rw[HR.out.2.2.2] at he2;simp only[iU] at he2;rw[Hm.out] at he2;rw[Ht.out] at he2;subst he2;have hk2:=Bk.new w2 79 #[.int .i64 (13:Int),.int .i64 (y:Int),.int .i64 ((y:Int)+2),.int .i64 q.up,.bool q.op];have ho2:=(dS HR.out.2.1 hb2).alloc (.cells #[.int .i64 (13:Int),.int .i64 (y:Int),.int .i64 ((y:Int)+2),.int .i64 q.up,.bool q.op] 79);have hB2:Below w.heap.size w (w2.alloc (.cells #[.int .i64 (13:Int),.int .i64 (y:Int),.int .i64 ((y:Int)+2),.int .i64 q.up,.bool q.op] 79)):=(HR.out.2.2.1.trans (hb2.mono HR.out.2.2.1.size)).alloc (by have:=hb2.size;have:=HR.out.2.2.1.size;omega) _;obtain⟨p0,p1,p2,p3,p4⟩:=ej hk2;have hlw2:=hk2.lt;have H2:=aa (ac ho2 (ac hB2 hk2));clear hb2 ho2 hB2 hk2))
             refine cx ?_
             iterate 14
               with_reducible refine cJ (fun K hK=>?_)
               go_simp;refine hK _ _ ?_;clear hK K
             with_reducible refine cT ?_
             go_upto_region 12 with fail
             refine cx ?_
             iterate 14
               with_reducible refine cJ (fun K hK=>?_)
               go_simp;refine hK _ _ ?_;clear hK K
             with_reducible refine cT ?_
             go_wp2_with fail;exact⟨⟨mm,y+2,here++S,out,_,by go_num,rfl,rfl,by omega,by omega,by first|omega|(simp;omega),by first|omega|(simp;omega),HR.out.1,H2.out.1,H2.out.2.1⟩,by simp[intOf];omega⟩)
          ·rw[aB hs] at hRR;have hc:¬d.toNat=36∧¬d.toNat=96∧¬d.toNat=34∧¬d.toNat=92:=by unfold uW at hs;simp at hs;omega
           obtain⟨c36,c96,c34,c92⟩:=hc;have t36:((d.toNat:Int)==36)=false:=by rw[az];omega
           have t96:((d.toNat:Int)==96)=false:=by rw[az];omega
           have t34:((d.toNat:Int)==34)=false:=by rw[az];omega
           have t92:((d.toNat:Int)==92)=false:=by rw[az];omega
           clear hs c36 c96 c34 c92;by_cases h10:d.toNat=10
           ·rw[aD h10] at hRR;have t10:((d.toNat:Int)==10)=true:=by rw[aR];omega
            clear h10;have HR:=aa (ac hRR (ac hown (ac hb hf)));clear hRR hown hb hf;go_upto_region 6 with (
              (go_at_call 173;refine(ii hL y c n A _ hLl H.out.2.2 ((H.out.1.keep HR.out.2.2.1 (au _)).mono HR.out.2.2.1.size)).mono ?_;rintro e2 w2 ⟨he2,hb2⟩;rw[HR.out.2.2.2] at he2;simp only[iU] at he2;rw[Hm.out] at he2;rw[Ht.out] at he2;subst he2;have hk2:=Bk.new w2 79 #[.int .i64 (13:Int),.int .i64 (y:Int),.int .i64 ((y:Int)+2),.int .i64 q.up,.bool q.op];have ho2:=(dS HR.out.2.1 hb2).alloc (.cells #[.int .i64 (13:Int),.int .i64 (y:Int),.int .i64 ((y:Int)+2),.int .i64 q.up,.bool q.op] 79);have hB2:Below w.heap.size w (w2.alloc (.cells #[.int .i64 (13:Int),.int .i64 (y:Int),.int .i64 ((y:Int)+2),.int .i64 q.up,.bool q.op] 79)):=(HR.out.2.2.1.trans (hb2.mono HR.out.2.2.1.size)).alloc (by have:=hb2.size;have:=HR.out.2.2.1.size;omega) _;obtain⟨p0,p1,p2,p3,p4⟩:=ej hk2;have hlw2:=hk2.lt;have H2:=aa (ac ho2 (ac hB2 hk2));clear hb2 ho2 hB2 hk2))
            refine cx ?_
            iterate 14
              with_reducible refine cJ (fun K hK=>?_)
              go_simp;refine hK _ _ ?_;clear hK K
            with_reducible refine cT ?_
            go_upto_region 12 with fail
            refine cx ?_
            iterate 14
              with_reducible refine cJ (fun K hK=>?_)
              go_simp;refine hK _ _ ?_;clear hK K
            with_reducible refine cT ?_
            go_wp2_with fail;exact⟨⟨mm,y+2,here,out,_,by go_num,rfl,rfl,by omega,by omega,by first|omega|(simp;omega),by first|omega|(simp;omega),HR.out.1,H2.out.1,H2.out.2.1⟩,by simp[intOf];omega⟩
           ·rw[aB h10] at hRR;have t10:((d.toNat:Int)==10)=false:=by rw[az];omega
            clear h10;obtain⟨S,hS⟩:∃S,S=sub l y (y+2):=⟨_,rfl⟩;have hext:(ByteArray.mk l.toArray).extract y (y+2)=⟨S.toArray⟩:=by rw[dX,hS];rfl
            have hSl:S.length≤(y+2)-y:=by have:=iI l y (y+2);rw[hS];omega
            have hcat:ByteArray.mk here.toArray++ByteArray.mk S.toArray=⟨(here++S).toArray⟩:=gY _ _;have hclen:¬9223372036854775807<here.length+S.length:=by omega
            rw[←hS] at hRR;clear hS;have HR:=aa (ac hRR (ac hown (ac hb hf)));clear hRR hown hb hf;go_upto_region 6 with (
              (go_at_call 173;refine(ii hL y c n A _ hLl H.out.2.2 ((H.out.1.keep HR.out.2.2.1 (au _)).mono HR.out.2.2.1.size)).mono ?_;rintro e2 w2 ⟨he2,hb2⟩;rw[HR.out.2.2.2] at he2;simp only[iU] at he2;rw[Hm.out] at he2;rw[Ht.out] at he2;subst he2;have hk2:=Bk.new w2 79 #[.int .i64 (13:Int),.int .i64 (y:Int),.int .i64 ((y:Int)+2),.int .i64 q.up,.bool q.op];have ho2:=(dS HR.out.2.1 hb2).alloc (.cells #[.int .i64 (13:Int),.int .i64 (y:Int),.int .i64 ((y:Int)+2),.int .i64 q.up,.bool q.op] 79);have hB2:Below w.heap.size w (w2.alloc (.cells #[.int .i64 (13:Int),.int .i64 (y:Int),.int .i64 ((y:Int)+2),.int .i64 q.up,.bool q.op] 79)):=(HR.out.2.2.1.trans (hb2.mono HR.out.2.2.1.size)).alloc (by have:=hb2.size;have:=HR.out.2.2.1.size;omega) _;obtain⟨p0,p1,p2,p3,p4⟩:=ej hk2;have hlw2:=hk2.lt;have H2:=aa (ac ho2 (ac hB2 hk2));clear hb2 ho2 hB2 hk2))
            refine cx ?_
            iterate 14
              with_reducible refine cJ (fun K hK=>?_)
              go_simp;refine hK _ _ ?_;clear hK K
            with_reducible refine cT ?_
            go_upto_region 12 with fail
            refine cx ?_
            iterate 14
              with_reducible refine cJ (fun K hK=>?_)
              go_simp;refine hK _ _ ?_;clear hK K
            with_reducible refine cT ?_
            go_wp2_with fail;exact⟨⟨mm,y+2,here++S,out,_,by go_num,rfl,rfl,by omega,by omega,by first|omega|(simp;omega),by first|omega|(simp;omega),HR.out.1,H2.out.1,H2.out.2.1⟩,by simp[intOf];omega⟩
         ·rw[aB h22] at hRR;have t2:((eA q:Int)==(y:Int)+2)=false:=by rw[az];omega
          have HR:=aa (ac hRR (ac hown (ac hb hf)));clear hRR hown hb hf;go_upto_region 6 with (
            (go_at_call 173;refine(ii hL y c n A _ hLl H.out.2.2 ((H.out.1.keep HR.out.2.2.1 (au _)).mono HR.out.2.2.1.size)).mono ?_;rintro e2 w2 ⟨he2,hb2⟩;rw[HR.out.2.2.2] at he2;simp only[iU] at he2;rw[Hm.out] at he2;subst he2;have hk2:=Bk.new w2 79 #[.int .i64 (13:Int),.int .i64 (y:Int),.int .i64 (eA q:Int),.int .i64 q.up,.bool q.op];have ho2:=(dS HR.out.2.1 hb2).alloc (.cells #[.int .i64 (13:Int),.int .i64 (y:Int),.int .i64 (eA q:Int),.int .i64 q.up,.bool q.op] 79);have hB2:Below w.heap.size w (w2.alloc (.cells #[.int .i64 (13:Int),.int .i64 (y:Int),.int .i64 (eA q:Int),.int .i64 q.up,.bool q.op] 79)):=(HR.out.2.2.1.trans (hb2.mono HR.out.2.2.1.size)).alloc (by have:=hb2.size;have:=HR.out.2.2.1.size;omega) _;obtain⟨p0,p1,p2,p3,p4⟩:=ej hk2;have hlw2:=hk2.lt;have H2:=aa (ac ho2 (ac hB2 hk2));clear hb2 ho2 hB2 hk2))
          refine cx ?_
          iterate 14
            with_reducible refine cJ (fun K hK=>?_)
            go_simp;refine hK _ _ ?_;clear hK K
          with_reducible refine cT ?_
          go_wp2_with fail;exact⟨⟨mm,eA q,here,out,_,by go_num,rfl,rfl,by omega,by omega,by first|omega|(simp;omega),by first|omega|(simp;omega),HR.out.1,H2.out.1,H2.out.2.1⟩,by simp[intOf];omega⟩
        ·rw[aB h13] at hRR;have t13:(q.mode==13)=false:=by simpa using h13
         obtain⟨S,hS⟩:∃S,S=sub l y (eA q):=⟨_,rfl⟩;have hext:(ByteArray.mk l.toArray).extract y (eA q)=⟨S.toArray⟩:=by rw[dX,hS];rfl
         rw[←hS] at hRR;clear hS;have h12:q.mode=12→¬eA q=y+1:=fun h1 h2=>hlone (by unfold jY;simp[h1,h2])
         clear hlone h13;by_cases hm12:q.mode=12;have t12:(q.mode==12)=true:=by simpa using hm12
         have t2:((eA q:Int)==(y:Int)+1)=false:=by have:=h12 hm12;rw[az];omega
         rotate_left
         have t12:(q.mode==12)=false:=by simpa using hm12
         rotate_left
         all_goals (
           clear hm12 h12
           cases here with
           | nil=>
             rw[aD rfl] at hRR;have HR:=aa (ac hRR (ac hown (ac hb hf)));clear hRR hown hb hf;go_upto_region 6 with (
               (go_at_call 173;refine(ii hL y c n A _ hLl H.out.2.2 ((H.out.1.keep HR.out.2.2.1 (au _)).mono HR.out.2.2.1.size)).mono ?_;rintro e2 w2 ⟨he2,hb2⟩;rw[HR.out.2.2.2] at he2;simp only[iU] at he2;subst he2;have hk2:=Bk.new w2 79 #[.int .i64 q.mode,.int .i64 (y:Int),.int .i64 (eA q:Int),.int .i64 q.up,.bool q.op];have ho2:=(dS HR.out.2.1 hb2).alloc (.cells #[.int .i64 q.mode,.int .i64 (y:Int),.int .i64 (eA q:Int),.int .i64 q.up,.bool q.op] 79);have hB2:Below w.heap.size w (w2.alloc (.cells #[.int .i64 q.mode,.int .i64 (y:Int),.int .i64 (eA q:Int),.int .i64 q.up,.bool q.op] 79)):=(HR.out.2.2.1.trans (hb2.mono HR.out.2.2.1.size)).alloc (by have:=hb2.size;have:=HR.out.2.2.1.size;omega) _;obtain⟨p0,p1,p2,p3,p4⟩:=ej hk2;have hlw2:=hk2.lt;have H2:=aa (ac ho2 (ac hB2 hk2));clear hb2 ho2 hB2 hk2))
             refine cx ?_
             iterate 14
               with_reducible refine cJ (fun K hK=>?_)
               go_simp;refine hK _ _ ?_;clear hK K
             with_reducible refine cT ?_
             go_wp2_with (first
               | (at_builtin
                  refine eD rfl (.tmp 100) (.tmp 107) 139 rfl w.heap.size 142 i0 _ 3 24 Tryz.underlying139 hi0 hz0 hz1 hz2 rfl (by decide) (.slice A1 out.length c1) out.length (fm out) rfl (H2.out.1.alloc _) (.slice (some ⟨w2.heap.size+1,0,none⟩) 1 1) 1 ((w2.heap.size+1)+1) (fm [⟨true,true,S⟩]) rfl (lL _ (((w2.heap.size+1))) (by simp) (fm [⟨true,true,S⟩]) 142 3 1 rfl (by omega)) (gI _) (by unfold maxLen;omega) (by omega) (by have:=H2.out.2.1.size;simp at this ⊢;omega) ?_;intro v5 w5 hown5 hg5 hv5;have hb5:Below w.heap.size w w5:=(H2.out.2.1.alloc (by have:=H2.out.2.1.size;simp at this ⊢;omega) _).grown hg5 (by have:=H2.out.2.1.size;simp at this ⊢;omega) (fun k hk=>(H2.out.1.lt k hk).1);have hk5:=(H2.out.2.2.alloc (.cells (fm [⟨true,true,S⟩]).toArray 142)).grown hg5 (eQ H2.out.1 H2.out.2.2 (by decide)).symm;obtain⟨s0,s1,s2,s3,s4⟩:=ej hk5;have H5:=aa (ac hown5 (ac hb5 hk5));clear hown5 hg5 hv5 hb5 hk5))
             exact⟨⟨mm,eA q,[],out++[⟨true,true,S⟩],_,rfl,rfl,rfl,by omega,by omega,by simp,by simp;omega,HR.out.1,by rw[gV,aH];exact H5.out.1,H5.out.2.1⟩,by simp[intOf];omega⟩
           | cons a r=>
             rw[aB (by simp)] at hRR;have HR:=aa (ac hRR (ac hown (ac hb hf)));clear hRR hown hb hf;go_upto_region 6 with (
               (go_at_call 173;refine(ii hL y c n A _ hLl H.out.2.2 ((H.out.1.keep HR.out.2.2.1 (au _)).mono HR.out.2.2.1.size)).mono ?_;rintro e2 w2 ⟨he2,hb2⟩;rw[HR.out.2.2.2] at he2;simp only[iU] at he2;subst he2;have hk2:=Bk.new w2 79 #[.int .i64 q.mode,.int .i64 (y:Int),.int .i64 (eA q:Int),.int .i64 q.up,.bool q.op];have ho2:=(dS HR.out.2.1 hb2).alloc (.cells #[.int .i64 q.mode,.int .i64 (y:Int),.int .i64 (eA q:Int),.int .i64 q.up,.bool q.op] 79);have hB2:Below w.heap.size w (w2.alloc (.cells #[.int .i64 q.mode,.int .i64 (y:Int),.int .i64 (eA q:Int),.int .i64 q.up,.bool q.op] 79)):=(HR.out.2.2.1.trans (hb2.mono HR.out.2.2.1.size)).alloc (by have:=hb2.size;have:=HR.out.2.2.1.size;omega) _;obtain⟨p0,p1,p2,p3,p4⟩:=ej hk2;have hlw2:=hk2.lt;have H2:=aa (ac ho2 (ac hB2 hk2));clear hb2 ho2 hB2 hk2))
             refine cx ?_
             iterate 14
               with_reducible refine cJ (fun K hK=>?_)
               go_simp;refine hK _ _ ?_;clear hK K
             with_reducible refine cT ?_
             go_wp2_with (first
               | (at_builtin
                  refine eD rfl (.tmp 95) (.tmp 98) 139 rfl w.heap.size 142 i0 _ 3 24 Tryz.underlying139 hi0 hz0 hz1 hz2 rfl (by decide) (.slice A1 out.length c1) out.length (fm out) rfl (H2.out.1.alloc _) (.slice (some ⟨w2.heap.size+1,0,none⟩) 1 1) 1 ((w2.heap.size+1)+1) (fm [⟨false,true,a::r⟩]) rfl (lL _ (((w2.heap.size+1))) (by simp) (fm [⟨false,true,a::r⟩]) 142 3 1 rfl (by omega)) (gI _) (by unfold maxLen;omega) (by omega) (by have:=H2.out.2.1.size;simp at this ⊢;omega) ?_;intro v4 w4 hown4 hg4 hv4;have hb4:Below w.heap.size w w4:=(H2.out.2.1.alloc (by have:=H2.out.2.1.size;simp at this ⊢;omega) _).grown hg4 (by have:=H2.out.2.1.size;simp at this ⊢;omega) (fun k hk=>(H2.out.1.lt k hk).1);have hk4:=(H2.out.2.2.alloc (.cells (fm [⟨false,true,a::r⟩]).toArray 142)).grown hg4 (eQ H2.out.1 H2.out.2.2 (by decide)).symm;obtain⟨s0,s1,s2,s3,s4⟩:=ej hk4;have H4:=aa (ac hown4 (ac hb4 hk4));clear hown4 hg4 hv4 hb4 hk4)
               | (at_builtin
                  refine eD rfl (.tmp 100) (.tmp 107) 139 rfl w.heap.size 142 i0 _ 3 24 Tryz.underlying139 hi0 hz0 hz1 hz2 rfl (by decide) v4 (out.length+1) (fm out++fm [⟨false,true,a::r⟩]) rfl (H4.out.1.alloc _) (.slice (some ⟨w4.heap.size,0,none⟩) 1 1) 1 (w4.heap.size+1) (fm [⟨true,true,S⟩]) rfl (lL _ ((w4.heap.size)) (by simp) (fm [⟨true,true,S⟩]) 142 3 1 rfl (by omega)) (gI _) (by unfold maxLen;omega) (by omega) (by have:=H4.out.2.1.size;simp at this ⊢;omega) ?_;intro v5 w5 hown5 hg5 hv5;have hb5:Below w.heap.size w w5:=(H4.out.2.1.alloc (by have:=H4.out.2.1.size;simp at this ⊢;omega) _).grown hg5 (by have:=H4.out.2.1.size;simp at this ⊢;omega) (fun k hk=>(H4.out.1.lt k hk).1);have hk5:=(H4.out.2.2.alloc (.cells (fm [⟨true,true,S⟩]).toArray 142)).grown hg5 (eQ H4.out.1 H4.out.2.2 (by decide)).symm;obtain⟨s0,s1,s2,s3,s4⟩:=ej hk5;have H5:=aa (ac hown5 (ac hb5 hk5));clear hown5 hg5 hv5 hb5 hk5))
             exact⟨⟨mm,eA q,[],out++[⟨false,true,a::r⟩]++[⟨true,true,S⟩],_,rfl,rfl,rfl,by omega,by omega,by simp,by simp at hhl ⊢;omega,HR.out.1,by rw[gV,gV,aH,aH];exact H5.out.1,H5.out.2.1⟩,by simp[intOf];omega⟩)
    ·have u1:¬(y:Int)<(e:Int):=by omega
     rw[aB hy] at hRR
     cases here with
     | nil=>
       cases out with
       | nil=>
         rw[aB (by simp)] at hRR;have HR:=aa (ac hRR (ac hown hb));clear hRR hown hb
         go_wp2_with (first
           | (at_builtin
              refine eD rfl (.tmp 118) (.tmp 121) 139 rfl w.heap.size 142 i0 _ 3 24 Tryz.underlying139 hi0 hz0 hz1 hz2 rfl (by decide) (.slice A1 0 c1) 0 [] rfl (HR.out.2.1.alloc _) (.slice (some ⟨wr.heap.size,0,none⟩) 1 1) 1 (wr.heap.size+1) (fm [⟨false,true,[]⟩]) rfl (lL _ ((wr.heap.size)) (by simp) (fm [⟨false,true,[]⟩]) 142 3 1 rfl (by omega)) (gI _) (by unfold maxLen;omega) (by omega) (by have:=HR.out.2.2.size;simp at this ⊢;omega) ?_;intro v5 w5 hown5 hg5 hv5;have hb5:Below w.heap.size w w5:=(HR.out.2.2.alloc (by have:=HR.out.2.2.size;simp at this ⊢;omega) _).grown hg5 (by have:=HR.out.2.2.size;simp at this ⊢;omega) (fun k hk=>(HR.out.2.1.lt k hk).1);have H5:=aa (ac hown5 (ac hb5 trivial));clear hown5 hg5 hv5 hb5))
         go_ret;exact⟨v5,rfl,by rw[HR.out.1];simpa [gV] using H5.out.1,H5.out.2.1⟩
       | cons p ps=>
         rw[aD ⟨rfl,by simp⟩] at hRR;have t0:(((ps.length:Int)+1)==0)=false:=by rw[az];omega
         have HR:=aa (ac hRR (ac hown hb));clear hRR hown hb;go_wp2_with fail;go_ret;exact⟨_,rfl,by rw[HR.out.1];exact HR.out.2.1,HR.out.2.2⟩
     | cons a r=>
       rw[aB (by simp)] at hRR;have HR:=aa (ac hRR (ac hown hb));clear hRR hown hb
       go_wp2_with (first
         | (at_builtin
            refine eD rfl (.tmp 118) (.tmp 121) 139 rfl w.heap.size 142 i0 _ 3 24 Tryz.underlying139 hi0 hz0 hz1 hz2 rfl (by decide) (.slice A1 out.length c1) out.length (fm out) rfl (HR.out.2.1.alloc _) (.slice (some ⟨wr.heap.size,0,none⟩) 1 1) 1 (wr.heap.size+1) (fm [⟨false,true,a::r⟩]) rfl (lL _ ((wr.heap.size)) (by simp) (fm [⟨false,true,a::r⟩]) 142 3 1 rfl (by omega)) (gI _) (by unfold maxLen;omega) (by omega) (by have:=HR.out.2.2.size;simp at this ⊢;omega) ?_;intro v5 w5 hown5 hg5 hv5;have hb5:Below w.heap.size w w5:=(HR.out.2.2.alloc (by have:=HR.out.2.2.size;simp at this ⊢;omega) _).grown hg5 (by have:=HR.out.2.2.size;simp at this ⊢;omega) (fun k hk=>(HR.out.2.1.lt k hk).1);have H5:=aa (ac hown5 (ac hb5 trivial));clear hown5 hg5 hv5 hb5))
       go_ret;exact⟨v5,rfl,by rw[HR.out.1];simpa [gV] using H5.out.1,H5.out.2.1⟩
theorem wI (P:List Pc) (t:List UInt8) (fr:Bool):(tN P t fr).length≤P.length+1:=by
  unfold tN;split
  ·split<;>simp
  ·simp
theorem AI {P:List Pc} {t:List UInt8} {fr:Bool} {N M:Nat} (h:∀x∈P,x.tx.length≤N) (hM:N+t.length≤M):∀x∈tN P t fr,x.tx.length≤M:=by
  intro x hx;unfold tN at hx;split at hx
  ·rename_i p hp;have hpm:=List.mem_of_getLast? hp;have h1:=h p hpm;split at hx
   ·rcases aZ.1 hx with hx|hx
    ·have:=h x (List.dropLast_subset _ hx);omega
    ·simp at hx;subst hx;simp;omega
   ·rcases aZ.1 hx with hx|hx
    ·have:=h x hx;omega
    ·simp at hx;subst hx;simp only;omega
  ·rcases aZ.1 hx with hx|hx
   ·have:=h x hx;omega
   ·simp at hx;subst hx;simp only;omega
theorem uJ {P Q:List Pc} {N M:Nat} (h:∀x∈P,x.tx.length≤N) (hN:N≤M) (hQ:∀x∈Q,x.tx.length≤M):∀x∈P++Q,x.tx.length≤M:=by
  intro x hx;rcases aZ.1 hx with hx|hx
  ·have:=h x hx;omega
  ·exact hQ x hx
theorem AX {y:Pc} {M:Nat} (h:y.tx.length≤M):∀x∈[y],x.tx.length≤M:=by
  intro x hx;simp at hx;subst hx;exact h
theorem vP (l:List UInt8) (L:List fh) (hL:PL l L) (a b:Int) (x0 e:Nat) (ha:a=x0) (hb:b=e) (n c:Nat) (A:Option Addr) (w:World) (hl:l.length≤900) (hLl:L.length≤100000) (hn:n=L.length) (hr:Rd w w.heap.size 5 (.slice A n c) n (fw L)) (hx0:x0≤l.length) (he:e≤l.length) (R:List Pc) (hR:R=qN l L e (l.length+1) x0 [] []) :
    Calls Tryz.prog 175 #[.string ⟨l.toArray⟩,.slice A n c,.int .i64 a,.int .i64 b] w fun e' w'=>∃v,e'=.returned v∧w'.ownsRow w.heap.size 142 3 v R.length (fm R)∧Below w.heap.size w w':=by
  subst ha;subst hb;exact GZ l L hL x0 e n c A w hl hLl hn hr hx0 he R hR
theorem FC (l:List UInt8) (w:World) (hl:l.length≤900) (R:List Pc) (hR:R=pj l (eC l) (l.length+1) 0 [] true) :
    Calls Tryz.prog 141 #[.string ⟨l.toArray⟩] w fun e' w'=>∃v,e'=.returned v∧w'.ownsRow w.heap.size 142 3 v R.length (fm R)∧Below w.heap.size w w':=by
  obtain⟨i0,hi0,hz0,hz1,hz2⟩:=cD Tryz.infoPiece;have hpl:=oz l;obtain⟨L,hLe⟩:∃L,L=eC l:=⟨_,rfl⟩;rw[←hLe] at hR hpl;have hLl:L.length≤100000:=by omega
  have HP:=aa (ac hLe hR);clear hR hpl;have hPL:PL l L:=by rw[hLe];exact lm l
  clear hLe;go_enter Tryz.func141,Tryz.ntmps141;go_wp2_with (
    (go_at_call 52;refine(Nb l w hl).mono ?_;rintro e1 w1 ⟨v1,rfl,ho1,hb1⟩;rw[←HP.out.1] at ho1;obtain⟨A,n,c,rfl⟩:=dR ho1;have hn1:=ei ho1;have HL:=aa (ac hn1 hPL);rw[←hn1] at ho1;have H:=aa (ac (Rd.of_own ho1) hb1);clear ho1 hb1 hn1 hPL))
  go_loopw [6,4,5] (fun i ov fv wr=>∃(mm y:Nat) (out:List Pc) (fresh:Bool) (v:Value),i=.int .i64 (y:Int)∧ov=v∧fv=.bool fresh∧y≤l.length∧l.length<mm+y∧out.length≤2*y∧(∀x∈out,x.tx.length≤l.length+y)∧R=pj l L mm y out fresh∧wr.ownsRow w1.heap.size 142 3 v out.length (fm out)∧Below w1.heap.size w1 wr) (fun i _ _ _=>l.length-(intOf i).toNat)
  case atStart=>exact⟨l.length+1,0,[],true,_,rfl,rfl,rfl,by omega,by omega,by simp,by simp,HP.out.2,cj _ _ _ _,aC _ _⟩
  case round=>
    obtain⟨mm,y,out,fresh,v,rfl,rfl,rfl,hyl,hmm,hol,hbx0,hRR,hown,hb⟩:=hrel;have hbx:∀x∈out,x.tx.length≤100000:=fun x hx=>by have:=hbx0 x hx;omega
    have HX:=aa hbx0;clear hbx0;obtain⟨mm,rfl⟩:∃m',mm=m'+1:=⟨mm-1,by omega⟩;obtain⟨A1,n1,c1,hv⟩:=dR hown;subst hv;have hn1:=ei hown;subst hn1;unfold pj at hRR;by_cases hy:y<l.length
    ·have u1:(y:Int)<(l.length:Int):=by omega
     have u2:(0:Int)≤(y:Int):=by omega
     have u3:(y:Int)+1≤(l.length:Int):=by omega
     have u4:((y:Int)+1).toNat=y+1:=by omega
     have u5:(y:Int)≤(y:Int)+1:=by omega
     have u6:(0:Int)≤(y:Int)+1:=by omega
     have u7:IntKind.i64.wrap ((y:Int)+1)=(y:Int)+1:=aS _ (by omega);have u8:IntKind.i64.wrap ((y:Int)+2)=(y:Int)+2:=aS _ (by omega);rw[aD hy] at hRR
     cases hf:gE L y with
     | none=>
       rw[hf] at hRR;simp only at hRR;obtain⟨S,hS⟩:∃S,S=sub l y (y+1):=⟨_,rfl⟩;have hext:(ByteArray.mk l.toArray).extract y (y+1)=⟨S.toArray⟩:=by rw[dX,hS];rfl
       have hSl:S.length≤(y+1)-y:=by have:=iI l y (y+1);rw[hS];omega
       rw[←hS] at hRR;clear hS;have HR:=aa (ac hRR (ac hown (ac hb (ac hf hbx))));clear hRR hown hb hf hbx;go_upto_region 7 with (
         (go_at_call 173;refine(ii HL.out.2 y c n A _ hLl HL.out.1 ((H.out.1.keep HR.out.2.2.1 (au _)).mono HR.out.2.2.1.size)).mono ?_;rintro e2 w2 ⟨he2,hb2⟩;rw[HR.out.2.2.2.1] at he2;simp only[iU] at he2;subst he2;have hk2:=Bk.new w2 79 #[.int .i64 0,.int .i64 0,.int .i64 0,.int .i64 0,.bool false];have ho2:=(dS HR.out.2.1 hb2).alloc (.cells #[.int .i64 0,.int .i64 0,.int .i64 0,.int .i64 0,.bool false] 79);have hB2:Below w1.heap.size w1 (w2.alloc (.cells #[.int .i64 0,.int .i64 0,.int .i64 0,.int .i64 0,.bool false] 79)):=(HR.out.2.2.1.trans (hb2.mono HR.out.2.2.1.size)).alloc (by have:=hb2.size;have:=HR.out.2.2.1.size;omega) _;obtain⟨p0,p1,p2,p3,p4⟩:=ej hk2;have hlw2:=hk2.lt;have H2:=aa (ac ho2 (ac hB2 hk2));clear hb2 ho2 hB2 hk2))
       refine cx ?_
       iterate 19
         with_reducible refine cJ (fun K hK=>?_)
         go_simp;refine hK _ _ ?_;clear hK K
       with_reducible refine cT ?_
       go_wp2_with (first
         | (go_at_call 174;refine(tH out S fresh c1 out.length A1 _ rfl (by omega) (Rd.of_own H2.out.1) HR.out.2.2.2.2 (by omega)).mono ?_;rintro e3 w3 ⟨v3,rfl,ho3,hb3⟩;obtain⟨s0,s1,s2,s3,s4⟩:=ej (H2.out.2.2.below hb3 H2.out.2.2.lt);have H3:=aa (ac (fK ho3 H2.out.2.1.size) (H2.out.2.1.trans (hb3.mono H2.out.2.1.size)));clear ho3 hb3))
       exact⟨⟨mm,y+1,tN out S fresh,false,_,by go_num,rfl,rfl,by omega,by omega,by have:=wI out S fresh;omega,AI HX.out (by omega),HR.out.1,H3.out.1,H3.out.2⟩,by simp[intOf];omega⟩
     | some q=>
       rw[hf] at hRR;simp only at hRR;obtain⟨_,hq1,hq2,hq3,hq4,hq5,hq6,hq7⟩:=gv HL.out.2 hf;clear hq1 hq2 hq6;have k1:(y:Int)≤(eA q:Int):=by omega
       have k2:(eA q:Int)≤(l.length:Int):=by omega
       have k3:(y:Int)+1≤(eA q:Int):=by omega
       by_cases h14:q.mode=14
       ·rw[aD (.inl h14)] at hRR;have Hm:=aa h14;clear h14 hq5 hq7;obtain⟨S,hS⟩:∃S,S=sub l y (eA q):=⟨_,rfl⟩;have hext:(ByteArray.mk l.toArray).extract y (eA q)=⟨S.toArray⟩:=by rw[dX,hS];rfl
        have hSl:S.length≤(eA q)-y:=by have:=iI l y (eA q);rw[hS];omega
        rw[←hS] at hRR;clear hS;have HR:=aa (ac hRR (ac hown (ac hb (ac hf hbx))));clear hRR hown hb hf hbx;go_upto_region 7 with (
          (go_at_call 173;refine(ii HL.out.2 y c n A _ hLl HL.out.1 ((H.out.1.keep HR.out.2.2.1 (au _)).mono HR.out.2.2.1.size)).mono ?_;rintro e2 w2 ⟨he2,hb2⟩;rw[HR.out.2.2.2.1] at he2;simp only[iU] at he2;rw[Hm.out] at he2;subst he2;have hk2:=Bk.new w2 79 #[.int .i64 (14:Int),.int .i64 (y:Int),.int .i64 (eA q:Int),.int .i64 q.up,.bool q.op];have ho2:=(dS HR.out.2.1 hb2).alloc (.cells #[.int .i64 (14:Int),.int .i64 (y:Int),.int .i64 (eA q:Int),.int .i64 q.up,.bool q.op] 79);have hB2:Below w1.heap.size w1 (w2.alloc (.cells #[.int .i64 (14:Int),.int .i64 (y:Int),.int .i64 (eA q:Int),.int .i64 q.up,.bool q.op] 79)):=(HR.out.2.2.1.trans (hb2.mono HR.out.2.2.1.size)).alloc (by have:=hb2.size;have:=HR.out.2.2.1.size;omega) _;obtain⟨p0,p1,p2,p3,p4⟩:=ej hk2;have hlw2:=hk2.lt;have H2:=aa (ac ho2 (ac hB2 hk2));clear hb2 ho2 hB2 hk2))
        refine cx ?_
        iterate 19
          with_reducible refine cJ (fun K hK=>?_)
          go_simp;refine hK _ _ ?_;clear hK K
        with_reducible refine cT ?_
        go_wp2_with (first
          | (go_at_call 174;refine(tH out S fresh c1 out.length A1 _ rfl (by omega) (Rd.of_own H2.out.1) HR.out.2.2.2.2 (by omega)).mono ?_;rintro e3 w3 ⟨v3,rfl,ho3,hb3⟩;obtain⟨s0,s1,s2,s3,s4⟩:=ej (H2.out.2.2.below hb3 H2.out.2.2.lt);have H3:=aa (ac (fK ho3 H2.out.2.1.size) (H2.out.2.1.trans (hb3.mono H2.out.2.1.size)));clear ho3 hb3))
        exact⟨⟨mm,eA q,tN out S fresh,false,_,by go_num,rfl,rfl,by omega,by omega,by have:=wI out S fresh;omega,AI HX.out (by omega),HR.out.1,H3.out.1,H3.out.2⟩,by simp[intOf];omega⟩
       ·have t14:(q.mode==14)=false:=by simpa using h14
        by_cases hlone:jY q y=true
        ·rw[aD (.inr hlone)] at hRR;obtain⟨h12,hto⟩:q.mode=12∧eA q=y+1:=by simpa [jY] using hlone
         have Ht:=aa (show (eA q:Int)=(y:Int)+1 by omega);have Hm:=aa h12;rw[hto] at hRR;clear h12 hto hlone hq5 hq7 t14 h14;obtain⟨S,hS⟩:∃S,S=sub l y (y+1):=⟨_,rfl⟩;have hext:(ByteArray.mk l.toArray).extract y (y+1)=⟨S.toArray⟩:=by rw[dX,hS];rfl
         have hSl:S.length≤(y+1)-y:=by have:=iI l y (y+1);rw[hS];omega
         rw[←hS] at hRR;clear hS;have HR:=aa (ac hRR (ac hown (ac hb (ac hf hbx))));clear hRR hown hb hf hbx;go_upto_region 7 with (
           (go_at_call 173;refine(ii HL.out.2 y c n A _ hLl HL.out.1 ((H.out.1.keep HR.out.2.2.1 (au _)).mono HR.out.2.2.1.size)).mono ?_;rintro e2 w2 ⟨he2,hb2⟩;rw[HR.out.2.2.2.1] at he2;simp only[iU] at he2;rw[Hm.out] at he2;rw[Ht.out] at he2;subst he2;have hk2:=Bk.new w2 79 #[.int .i64 (12:Int),.int .i64 (y:Int),.int .i64 ((y:Int)+1),.int .i64 q.up,.bool q.op];have ho2:=(dS HR.out.2.1 hb2).alloc (.cells #[.int .i64 (12:Int),.int .i64 (y:Int),.int .i64 ((y:Int)+1),.int .i64 q.up,.bool q.op] 79);have hB2:Below w1.heap.size w1 (w2.alloc (.cells #[.int .i64 (12:Int),.int .i64 (y:Int),.int .i64 ((y:Int)+1),.int .i64 q.up,.bool q.op] 79)):=(HR.out.2.2.1.trans (hb2.mono HR.out.2.2.1.size)).alloc (by have:=hb2.size;have:=HR.out.2.2.1.size;omega) _;obtain⟨p0,p1,p2,p3,p4⟩:=ej hk2;have hlw2:=hk2.lt;have H2:=aa (ac ho2 (ac hB2 hk2));clear hb2 ho2 hB2 hk2))
         refine cx ?_
         iterate 19
           with_reducible refine cJ (fun K hK=>?_)
           go_simp;refine hK _ _ ?_;clear hK K
         with_reducible refine cT ?_
         go_wp2_with (first
           | (go_at_call 174;refine(tH out S fresh c1 out.length A1 _ rfl (by omega) (Rd.of_own H2.out.1) HR.out.2.2.2.2 (by omega)).mono ?_;rintro e3 w3 ⟨v3,rfl,ho3,hb3⟩;obtain⟨s0,s1,s2,s3,s4⟩:=ej (H2.out.2.2.below hb3 H2.out.2.2.lt);have H3:=aa (ac (fK ho3 H2.out.2.1.size) (H2.out.2.1.trans (hb3.mono H2.out.2.1.size)));clear ho3 hb3))
         exact⟨⟨mm,y+1,tN out S fresh,false,_,by go_num,rfl,rfl,by omega,by omega,by have:=wI out S fresh;omega,AI HX.out (by omega),HR.out.1,H3.out.1,H3.out.2⟩,by simp[intOf];omega⟩
        ·rw[aB (by rintro (h|h);exact h14 h;exact hlone h)] at hRR;by_cases h13:q.mode=13
         ·rw[aD h13] at hRR;have Hm:=aa h13;have hq8:=hq7 h13;clear h13 hlone hq5 hq7 t14 h14;by_cases h22:eA q=y+2
          ·have Ht:=aa (show (eA q:Int)=(y:Int)+2 by omega);rw[h22] at hRR;obtain⟨d,hd⟩:∃d,l[y+1]? = some d:=⟨_,ax (by omega)⟩;have hgd:l.getD (y+1) 0=d:=by rw[aE,hd];rfl
           obtain⟨hb1,hb2⟩:=ay.1 hd;have hLk:∃h:y+1<(ByteArray.mk l.toArray).size,(ByteArray.mk l.toArray)[y+1]'h=d:=⟨hb1,hb2⟩;obtain⟨hL1,hL2⟩:=hLk;have v1:(y:Int)+1<(l.length:Int):=by omega
           have v2:(y:Int)+1≤(y:Int)+2:=by omega
           have v3:((y:Int)+2).toNat=y+2:=by omega
           have v4:(y:Int)+2≤(l.length:Int):=by omega
           rw[hgd] at hRR;clear hd hgd hb2;by_cases h10:d.toNat=10
           ·rw[aB (fun h=>h.2 h10)] at hRR;have t10:((d.toNat:Int)==10)=true:=by rw[aR];omega
            clear h10 h22;have HR:=aa (ac hRR (ac hown (ac hb (ac hf hbx))));clear hRR hown hb hf hbx;go_upto_region 7 with (
              (go_at_call 173;refine(ii HL.out.2 y c n A _ hLl HL.out.1 ((H.out.1.keep HR.out.2.2.1 (au _)).mono HR.out.2.2.1.size)).mono ?_;rintro e2 w2 ⟨he2,hb2⟩;rw[HR.out.2.2.2.1] at he2;simp only[iU] at he2;rw[Hm.out] at he2;rw[Ht.out] at he2;subst he2;have hk2:=Bk.new w2 79 #[.int .i64 (13:Int),.int .i64 (y:Int),.int .i64 ((y:Int)+2),.int .i64 q.up,.bool q.op];have ho2:=(dS HR.out.2.1 hb2).alloc (.cells #[.int .i64 (13:Int),.int .i64 (y:Int),.int .i64 ((y:Int)+2),.int .i64 q.up,.bool q.op] 79);have hB2:Below w1.heap.size w1 (w2.alloc (.cells #[.int .i64 (13:Int),.int .i64 (y:Int),.int .i64 ((y:Int)+2),.int .i64 q.up,.bool q.op] 79)):=(HR.out.2.2.1.trans (hb2.mono HR.out.2.2.1.size)).alloc (by have:=hb2.size;have:=HR.out.2.2.1.size;omega) _;obtain⟨p0,p1,p2,p3,p4⟩:=ej hk2;have hlw2:=hk2.lt;have H2:=aa (ac ho2 (ac hB2 hk2));clear hb2 ho2 hB2 hk2))
            refine cx ?_
            iterate 19
              with_reducible refine cJ (fun K hK=>?_)
              go_simp;refine hK _ _ ?_;clear hK K
            with_reducible refine cT ?_
            go_wp2_with fail;exact⟨⟨mm,y+2,out,fresh,_,by go_num,rfl,rfl,by omega,by omega,by omega,fun x hx=>by have:=HX.out x hx;omega,HR.out.1,H2.out.1,H2.out.2.1⟩,by simp[intOf];omega⟩
           ·rw[aD ⟨rfl,h10⟩] at hRR;have t10:((d.toNat:Int)==10)=false:=by rw[az];omega
            clear h10 h22;obtain⟨S,hS⟩:∃S,S=sub l (y+1) (y+2):=⟨_,rfl⟩;have hext:(ByteArray.mk l.toArray).extract (y+1) (y+2)=⟨S.toArray⟩:=by rw[dX,hS];rfl
            have hSl:S.length≤(y+2)-(y+1):=by have:=iI l (y+1) (y+2);rw[hS];omega
            rw[←hS] at hRR;clear hS;have HR:=aa (ac hRR (ac hown (ac hb (ac hf hbx))));clear hRR hown hb hf hbx;go_upto_region 7 with (
              (go_at_call 173;refine(ii HL.out.2 y c n A _ hLl HL.out.1 ((H.out.1.keep HR.out.2.2.1 (au _)).mono HR.out.2.2.1.size)).mono ?_;rintro e2 w2 ⟨he2,hb2⟩;rw[HR.out.2.2.2.1] at he2;simp only[iU] at he2;rw[Hm.out] at he2;rw[Ht.out] at he2;subst he2;have hk2:=Bk.new w2 79 #[.int .i64 (13:Int),.int .i64 (y:Int),.int .i64 ((y:Int)+2),.int .i64 q.up,.bool q.op];have ho2:=(dS HR.out.2.1 hb2).alloc (.cells #[.int .i64 (13:Int),.int .i64 (y:Int),.int .i64 ((y:Int)+2),.int .i64 q.up,.bool q.op] 79);have hB2:Below w1.heap.size w1 (w2.alloc (.cells #[.int .i64 (13:Int),.int .i64 (y:Int),.int .i64 ((y:Int)+2),.int .i64 q.up,.bool q.op] 79)):=(HR.out.2.2.1.trans (hb2.mono HR.out.2.2.1.size)).alloc (by have:=hb2.size;have:=HR.out.2.2.1.size;omega) _;obtain⟨p0,p1,p2,p3,p4⟩:=ej hk2;have hlw2:=hk2.lt;have H2:=aa (ac ho2 (ac hB2 hk2));clear hb2 ho2 hB2 hk2))
            refine cx ?_
            iterate 19
              with_reducible refine cJ (fun K hK=>?_)
              go_simp;refine hK _ _ ?_;clear hK K
            with_reducible refine cT ?_
            go_wp2_with (first
              | (at_builtin
                 refine eD rfl (.tmp 76) (.tmp 85) 139 rfl w1.heap.size 142 i0 _ 3 24 Tryz.underlying139 hi0 hz0 hz1 hz2 rfl (by decide) (.slice A1 out.length c1) out.length (fm out) rfl (H2.out.1.alloc _) (.slice (some ⟨w2.heap.size+1,0,none⟩) 1 1) 1 (w2.heap.size+1+1) (fm [⟨false,true,S⟩]) rfl (lL _ (w2.heap.size+1) (by simp) (fm [⟨false,true,S⟩]) 142 3 1 rfl (by omega)) (gI _) (by unfold maxLen;omega) (by omega) (by have:=H2.out.2.1.size;simp at this ⊢;omega) ?_;intro v3 w3 hown3 hg3 hv3;have hb3:Below w1.heap.size w1 w3:=(H2.out.2.1.alloc (by have:=H2.out.2.1.size;simp at this ⊢;omega) _).grown hg3 (by have:=H2.out.2.1.size;simp at this ⊢;omega) (fun k hk=>(H2.out.1.lt k hk).1);have hk3:=(H2.out.2.2.alloc (.cells (fm [⟨false,true,S⟩]).toArray 142)).grown hg3 (eQ H2.out.1 H2.out.2.2 (by decide)).symm;obtain⟨s0,s1,s2,s3,s4⟩:=ej hk3;have H3:=aa (ac hown3 (ac hb3 hk3));clear hown3 hg3 hv3 hb3 hk3))
            exact⟨⟨mm,y+2,out++[⟨false,true,S⟩],true,_,by go_num,rfl,rfl,by omega,by omega,by simp;omega,uJ HX.out (by omega) (AX (by simp only;omega)),HR.out.1,by rw[gV,aH];exact H3.out.1,H3.out.2.1⟩,by simp[intOf];omega⟩
          ·rw[aB (fun h=>h22 h.1)] at hRR;have t2:((eA q:Int)==(y:Int)+2)=false:=by rw[az];omega
           have HR:=aa (ac hRR (ac hown (ac hb (ac hf hbx))));clear hRR hown hb hf hbx;go_upto_region 7 with (
             (go_at_call 173;refine(ii HL.out.2 y c n A _ hLl HL.out.1 ((H.out.1.keep HR.out.2.2.1 (au _)).mono HR.out.2.2.1.size)).mono ?_;rintro e2 w2 ⟨he2,hb2⟩;rw[HR.out.2.2.2.1] at he2;simp only[iU] at he2;rw[Hm.out] at he2;subst he2;have hk2:=Bk.new w2 79 #[.int .i64 (13:Int),.int .i64 (y:Int),.int .i64 (eA q:Int),.int .i64 q.up,.bool q.op];have ho2:=(dS HR.out.2.1 hb2).alloc (.cells #[.int .i64 (13:Int),.int .i64 (y:Int),.int .i64 (eA q:Int),.int .i64 q.up,.bool q.op] 79);have hB2:Below w1.heap.size w1 (w2.alloc (.cells #[.int .i64 (13:Int),.int .i64 (y:Int),.int .i64 (eA q:Int),.int .i64 q.up,.bool q.op] 79)):=(HR.out.2.2.1.trans (hb2.mono HR.out.2.2.1.size)).alloc (by have:=hb2.size;have:=HR.out.2.2.1.size;omega) _;obtain⟨p0,p1,p2,p3,p4⟩:=ej hk2;have hlw2:=hk2.lt;have H2:=aa (ac ho2 (ac hB2 hk2));clear hb2 ho2 hB2 hk2))
           refine cx ?_
           iterate 19
             with_reducible refine cJ (fun K hK=>?_)
             go_simp;refine hK _ _ ?_;clear hK K
           with_reducible refine cT ?_
           go_wp2_with fail;exact⟨⟨mm,eA q,out,fresh,_,by go_num,rfl,rfl,by omega,by omega,by omega,fun x hx=>by have:=HX.out x hx;omega,HR.out.1,H2.out.1,H2.out.2.1⟩,by simp[intOf];omega⟩
         ·rw[aB h13] at hRR;have t13:(q.mode==13)=false:=by simpa using h13
          by_cases h4:q.mode=4
          ·rw[aD h4] at hRR;have Hm:=aa h4;have hq8:=hq5 (by omega);clear h4 h13 t13 hlone h14 t14 hq5 hq7
           cases hop:q.op;have Ho:=aa hop;have hE:lc q=eA q-1:=by unfold lc;rw[hop];rfl
           rw[hE] at hRR;have hq9:=hq8 hop;have v1:(y:Int)+1≤(eA q:Int)-1:=by omega
           have v2:(eA q:Int)-1≤(l.length:Int):=by omega
           have v3:((eA q:Int)-1).toNat=eA q-1:=by omega
           have v4:(0:Int)≤(eA q:Int)-1:=by omega
           clear hE hop hq8;obtain⟨S,hS⟩:∃S,S=sub l (y+1) (eA q-1):=⟨_,rfl⟩;have hext:(ByteArray.mk l.toArray).extract (y+1) (eA q-1)=⟨S.toArray⟩:=by rw[dX,hS];rfl
           have hSl:S.length≤(eA q-1)-(y+1):=by have:=iI l (y+1) (eA q-1);rw[hS];omega
           rw[←hS] at hRR;clear hS;have HR:=aa (ac hRR (ac hown (ac hb (ac hf hbx))));clear hRR hown hb hf hbx;go_upto_region 7 with (
             (go_at_call 173;refine(ii HL.out.2 y c n A _ hLl HL.out.1 ((H.out.1.keep HR.out.2.2.1 (au _)).mono HR.out.2.2.1.size)).mono ?_;rintro e2 w2 ⟨he2,hb2⟩;rw[HR.out.2.2.2.1] at he2;simp only[iU] at he2;rw[Hm.out] at he2;rw[Ho.out] at he2;subst he2;have hk2:=Bk.new w2 79 #[.int .i64 (4:Int),.int .i64 (y:Int),.int .i64 (eA q:Int),.int .i64 q.up,.bool false];have ho2:=(dS HR.out.2.1 hb2).alloc (.cells #[.int .i64 (4:Int),.int .i64 (y:Int),.int .i64 (eA q:Int),.int .i64 q.up,.bool false] 79);have hB2:Below w1.heap.size w1 (w2.alloc (.cells #[.int .i64 (4:Int),.int .i64 (y:Int),.int .i64 (eA q:Int),.int .i64 q.up,.bool false] 79)):=(HR.out.2.2.1.trans (hb2.mono HR.out.2.2.1.size)).alloc (by have:=hb2.size;have:=HR.out.2.2.1.size;omega) _;obtain⟨p0,p1,p2,p3,p4⟩:=ej hk2;have hlw2:=hk2.lt;have H2:=aa (ac ho2 (ac hB2 hk2));clear hb2 ho2 hB2 hk2))
           rotate_left
           have Ho:=aa hop;have hE:lc q=eA q:=by unfold lc;rw[hop];rfl
           rw[hE] at hRR
           skip
           have v2:(eA q:Int)-1≤(l.length:Int):=by omega
           have v3:((eA q:Int)-1).toNat=eA q-1:=by omega
           have v4:(0:Int)≤(eA q:Int)-1:=by omega
           clear hE hop hq8;obtain⟨S,hS⟩:∃S,S=sub l (y+1) (eA q):=⟨_,rfl⟩;have hext:(ByteArray.mk l.toArray).extract (y+1) (eA q)=⟨S.toArray⟩:=by rw[dX,hS];rfl
           have hSl:S.length≤(eA q)-(y+1):=by have:=iI l (y+1) (eA q);rw[hS];omega
           rw[←hS] at hRR;clear hS;have HR:=aa (ac hRR (ac hown (ac hb (ac hf hbx))));clear hRR hown hb hf hbx;go_upto_region 7 with (
             (go_at_call 173;refine(ii HL.out.2 y c n A _ hLl HL.out.1 ((H.out.1.keep HR.out.2.2.1 (au _)).mono HR.out.2.2.1.size)).mono ?_;rintro e2 w2 ⟨he2,hb2⟩;rw[HR.out.2.2.2.1] at he2;simp only[iU] at he2;rw[Hm.out] at he2;rw[Ho.out] at he2;subst he2;have hk2:=Bk.new w2 79 #[.int .i64 (4:Int),.int .i64 (y:Int),.int .i64 (eA q:Int),.int .i64 q.up,.bool true];have ho2:=(dS HR.out.2.1 hb2).alloc (.cells #[.int .i64 (4:Int),.int .i64 (y:Int),.int .i64 (eA q:Int),.int .i64 q.up,.bool true] 79);have hB2:Below w1.heap.size w1 (w2.alloc (.cells #[.int .i64 (4:Int),.int .i64 (y:Int),.int .i64 (eA q:Int),.int .i64 q.up,.bool true] 79)):=(HR.out.2.2.1.trans (hb2.mono HR.out.2.2.1.size)).alloc (by have:=hb2.size;have:=HR.out.2.2.1.size;omega) _;obtain⟨p0,p1,p2,p3,p4⟩:=ej hk2;have hlw2:=hk2.lt;have H2:=aa (ac ho2 (ac hB2 hk2));clear hb2 ho2 hB2 hk2))
           rotate_left
           all_goals (
             refine cx ?_
             iterate 19
               with_reducible refine cJ (fun K hK=>?_)
               go_simp;refine hK _ _ ?_;clear hK K
             with_reducible refine cT ?_
             go_wp2_with (first
               | (at_builtin
                  refine eD rfl (.tmp 97) (.tmp 105) 139 rfl w1.heap.size 142 i0 _ 3 24 Tryz.underlying139 hi0 hz0 hz1 hz2 rfl (by decide) (.slice A1 out.length c1) out.length (fm out) rfl (H2.out.1.alloc _) (.slice (some ⟨w2.heap.size+1,0,none⟩) 1 1) 1 (w2.heap.size+1+1) (fm [⟨false,true,S⟩]) rfl (lL _ (w2.heap.size+1) (by simp) (fm [⟨false,true,S⟩]) 142 3 1 rfl (by omega)) (gI _) (by unfold maxLen;omega) (by omega) (by have:=H2.out.2.1.size;simp at this ⊢;omega) ?_;intro v3 w3 hown3 hg3 hv3;have hb3:Below w1.heap.size w1 w3:=(H2.out.2.1.alloc (by have:=H2.out.2.1.size;simp at this ⊢;omega) _).grown hg3 (by have:=H2.out.2.1.size;simp at this ⊢;omega) (fun k hk=>(H2.out.1.lt k hk).1);have hk3:=(H2.out.2.2.alloc (.cells (fm [⟨false,true,S⟩]).toArray 142)).grown hg3 (eQ H2.out.1 H2.out.2.2 (by decide)).symm;obtain⟨s0,s1,s2,s3,s4⟩:=ej hk3;have H3:=aa (ac hown3 (ac hb3 hk3));clear hown3 hg3 hv3 hb3 hk3))
             exact⟨⟨mm,eA q,out++[⟨false,true,S⟩],true,_,by go_num,rfl,rfl,by omega,by omega,by simp;omega,uJ HX.out (by omega) (AX (by simp only;omega)),HR.out.1,by rw[gV,aH];exact H3.out.1,H3.out.2.1⟩,by simp[intOf];omega⟩)
          ·rw[aB h4] at hRR;have t4:(q.mode==4)=false:=by simpa using h4
           by_cases h5:q.mode=5
           ·rw[aD h5] at hRR;have Hm:=aa h5;have hq8:=hq5 (by omega);clear h5 h4 t4 h13 t13 hlone h14 t14 hq5 hq7
            cases hop:q.op
            ·have Ho:=aa hop;have hE:lc q=eA q-1:=by unfold lc;rw[hop];rfl
             rw[hE] at hRR;have hq9:=hq8 hop;have v4:(0:Int)≤(eA q:Int)-1:=by omega
             obtain⟨D,hD⟩:∃D,D=qN l L (eA q-1) (l.length+1) (y+1) [] []:=⟨_,rfl⟩;have hDe:D=jx l L (eA q-1) (l.length+1) (y+1) [] false:=by rw[hD,lw HL.out.2 _ (by omega)];rfl
             have hDl:D.length≤2*((eA q-1)-(y+1))+1:=by rw[hDe];have:=mY HL.out.2 (eA q-1) (l.length+1) (y+1) [] false;simpa [qz] using this
             have hDt:∀x∈D,x.tx.length≤l.length+eA q:=by rw[hDe];intro x hx;have:=pG HL.out.2 (eA q-1) (by omega) (l.length+1) (y+1) [] false (by simp) (by omega) x hx;omega
             rw[←hD] at hRR;have HD:=aa hD;have HDt:=aa hDt;clear hE hop hq8 hD hDe hDt;have HR:=aa (ac hRR (ac hown (ac hb (ac hf hbx))));clear hRR hown hb hf hbx;go_upto_region 7 with (
               (go_at_call 173;refine(ii HL.out.2 y c n A _ hLl HL.out.1 ((H.out.1.keep HR.out.2.2.1 (au _)).mono HR.out.2.2.1.size)).mono ?_;rintro e2 w2 ⟨he2,hb2⟩;rw[HR.out.2.2.2.1] at he2;simp only[iU] at he2;rw[Hm.out] at he2;rw[Ho.out] at he2;subst he2;have hk2:=Bk.new w2 79 #[.int .i64 (5:Int),.int .i64 (y:Int),.int .i64 (eA q:Int),.int .i64 q.up,.bool false];have ho2:=(dS HR.out.2.1 hb2).alloc (.cells #[.int .i64 (5:Int),.int .i64 (y:Int),.int .i64 (eA q:Int),.int .i64 q.up,.bool false] 79);have hB2:Below w1.heap.size w1 (w2.alloc (.cells #[.int .i64 (5:Int),.int .i64 (y:Int),.int .i64 (eA q:Int),.int .i64 q.up,.bool false] 79)):=(HR.out.2.2.1.trans (hb2.mono HR.out.2.2.1.size)).alloc (by have:=hb2.size;have:=HR.out.2.2.1.size;omega) _;obtain⟨p0,p1,p2,p3,p4⟩:=ej hk2;have hlw2:=hk2.lt;have H2:=aa (ac ho2 (ac hB2 hk2));clear hb2 ho2 hB2 hk2))
             refine cx ?_
             iterate 19
               with_reducible refine cJ (fun K hK=>?_)
               go_simp;refine hK _ _ ?_;clear hK K
             with_reducible refine cT ?_
             go_wp2_with (first
               | (go_at_call 175;refine(vP l L HL.out.2 ((y:Int)+1) ((eA q:Int)-1) (y+1) (eA q-1) (by omega) (by omega) n c A _ hl hLl HL.out.1 ((H.out.1.keep H2.out.2.1 (au _)).mono H2.out.2.1.size) (by omega) (by omega) D HD.out).mono ?_;rintro e3 w3 ⟨v3,rfl,ho3,hb3⟩;obtain⟨A3,n3,c3,rfl⟩:=dR ho3;obtain rfl:=ei ho3;have hk3:=H2.out.2.2.below hb3 H2.out.2.2.lt;have H3:=aa (ac ho3 (ac (dS H2.out.1 hb3) (ac (H2.out.2.1.trans (hb3.mono H2.out.2.1.size)) hk3)));clear ho3 hb3 hk3)
               | (at_builtin
                  refine eD rfl (.tmp 117) (.tmp 124) 139 rfl w1.heap.size 142 i0 _ 3 24 Tryz.underlying139 hi0 hz0 hz1 hz2 rfl (by decide) (.slice A1 out.length c1) out.length (fm out) rfl H3.out.2.1 (.slice A3 D.length c3) D.length w3.heap.size (fm D) rfl (Rd.of_own H3.out.1) (gI _) (by unfold maxLen;omega) (by omega) (H3.out.2.2.1.size) ?_;intro v4 w4 hown4 hg4 hv4;have hb4:Below w1.heap.size w1 w4:=H3.out.2.2.1.grown hg4 H3.out.2.2.1.size (fun k hk=>(H3.out.2.1.lt k hk).1);have H4:=aa (ac hown4 hb4);clear hown4 hg4 hv4 hb4))
             exact⟨⟨mm,eA q,out++D,true,_,by go_num,rfl,rfl,by omega,by omega,by simp;omega,uJ HX.out (by omega) HDt.out,HR.out.1,by rw[gV,aH];exact H4.out.1,H4.out.2⟩,by simp[intOf];omega⟩
            ·have Ho:=aa hop;have hE:lc q=eA q:=by unfold lc;rw[hop];rfl
             rw[hE] at hRR
             skip
             have v4:(0:Int)≤(eA q:Int)-1:=by omega
             obtain⟨D,hD⟩:∃D,D=qN l L (eA q) (l.length+1) (y+1) [] []:=⟨_,rfl⟩;have hDe:D=jx l L (eA q) (l.length+1) (y+1) [] false:=by rw[hD,lw HL.out.2 _ (by omega)];rfl
             have hDl:D.length≤2*((eA q)-(y+1))+1:=by rw[hDe];have:=mY HL.out.2 (eA q) (l.length+1) (y+1) [] false;simpa [qz] using this
             have hDt:∀x∈D,x.tx.length≤l.length+eA q:=by rw[hDe];intro x hx;have:=pG HL.out.2 (eA q) (by omega) (l.length+1) (y+1) [] false (by simp) (by omega) x hx;omega
             rw[←hD] at hRR;have HD:=aa hD;have HDt:=aa hDt;clear hE hop hq8 hD hDe hDt;have HR:=aa (ac hRR (ac hown (ac hb (ac hf hbx))));clear hRR hown hb hf hbx;go_upto_region 7 with (
               (go_at_call 173;refine(ii HL.out.2 y c n A _ hLl HL.out.1 ((H.out.1.keep HR.out.2.2.1 (au _)).mono HR.out.2.2.1.size)).mono ?_;rintro e2 w2 ⟨he2,hb2⟩;rw[HR.out.2.2.2.1] at he2;simp only[iU] at he2;rw[Hm.out] at he2;rw[Ho.out] at he2;subst he2;have hk2:=Bk.new w2 79 #[.int .i64 (5:Int),.int .i64 (y:Int),.int .i64 (eA q:Int),.int .i64 q.up,.bool true];have ho2:=(dS HR.out.2.1 hb2).alloc (.cells #[.int .i64 (5:Int),.int .i64 (y:Int),.int .i64 (eA q:Int),.int .i64 q.up,.bool true] 79);have hB2:Below w1.heap.size w1 (w2.alloc (.cells #[.int .i64 (5:Int),.int .i64 (y:Int),.int .i64 (eA q:Int),.int .i64 q.up,.bool true] 79)):=(HR.out.2.2.1.trans (hb2.mono HR.out.2.2.1.size)).alloc (by have:=hb2.size;have:=HR.out.2.2.1.size;omega) _;obtain⟨p0,p1,p2,p3,p4⟩:=ej hk2;have hlw2:=hk2.lt;have H2:=aa (ac ho2 (ac hB2 hk2));clear hb2 ho2 hB2 hk2))
             refine cx ?_
             iterate 19
               with_reducible refine cJ (fun K hK=>?_)
               go_simp;refine hK _ _ ?_;clear hK K
             with_reducible refine cT ?_
             go_wp2_with (first
               | (go_at_call 175;refine(vP l L HL.out.2 ((y:Int)+1) ((eA q:Int)) (y+1) (eA q) (by omega) (by omega) n c A _ hl hLl HL.out.1 ((H.out.1.keep H2.out.2.1 (au _)).mono H2.out.2.1.size) (by omega) (by omega) D HD.out).mono ?_;rintro e3 w3 ⟨v3,rfl,ho3,hb3⟩;obtain⟨A3,n3,c3,rfl⟩:=dR ho3;obtain rfl:=ei ho3;have hk3:=H2.out.2.2.below hb3 H2.out.2.2.lt;have H3:=aa (ac ho3 (ac (dS H2.out.1 hb3) (ac (H2.out.2.1.trans (hb3.mono H2.out.2.1.size)) hk3)));clear ho3 hb3 hk3)
               | (at_builtin
                  refine eD rfl (.tmp 117) (.tmp 124) 139 rfl w1.heap.size 142 i0 _ 3 24 Tryz.underlying139 hi0 hz0 hz1 hz2 rfl (by decide) (.slice A1 out.length c1) out.length (fm out) rfl H3.out.2.1 (.slice A3 D.length c3) D.length w3.heap.size (fm D) rfl (Rd.of_own H3.out.1) (gI _) (by unfold maxLen;omega) (by omega) (H3.out.2.2.1.size) ?_;intro v4 w4 hown4 hg4 hv4;have hb4:Below w1.heap.size w1 w4:=H3.out.2.2.1.grown hg4 H3.out.2.2.1.size (fun k hk=>(H3.out.2.1.lt k hk).1);have H4:=aa (ac hown4 hb4);clear hown4 hg4 hv4 hb4))
             exact⟨⟨mm,eA q,out++D,true,_,by go_num,rfl,rfl,by omega,by omega,by simp;omega,uJ HX.out (by omega) HDt.out,HR.out.1,by rw[gV,aH];exact H4.out.1,H4.out.2⟩,by simp[intOf];omega⟩
           ·rw[aB h5] at hRR;have t5:(q.mode==5)=false:=by simpa using h5
            have h12:q.mode=12→¬eA q=y+1:=fun h1 h2=>hlone (by unfold jY;simp[h1,h2])
            clear h5 h4 h13 hlone h14 hq5 hq7;obtain⟨S,hS⟩:∃S,S=sub l y (eA q):=⟨_,rfl⟩;have hext:(ByteArray.mk l.toArray).extract y (eA q)=⟨S.toArray⟩:=by rw[dX,hS];rfl
            have hSl:S.length≤(eA q)-y:=by have:=iI l y (eA q);rw[hS];omega
            rw[←hS] at hRR;clear hS;by_cases hm12:q.mode=12;have t12:(q.mode==12)=true:=by simpa using hm12
            have t2:((eA q:Int)==(y:Int)+1)=false:=by have:=h12 hm12;rw[az];omega
            rotate_left
            have t12:(q.mode==12)=false:=by simpa using hm12
            rotate_left
            all_goals (
              clear hm12 h12;have HR:=aa (ac hRR (ac hown (ac hb (ac hf hbx))));clear hRR hown hb hf hbx;go_upto_region 7 with (
                (go_at_call 173;refine(ii HL.out.2 y c n A _ hLl HL.out.1 ((H.out.1.keep HR.out.2.2.1 (au _)).mono HR.out.2.2.1.size)).mono ?_;rintro e2 w2 ⟨he2,hb2⟩;rw[HR.out.2.2.2.1] at he2;simp only[iU] at he2;subst he2;have hk2:=Bk.new w2 79 #[.int .i64 q.mode,.int .i64 (y:Int),.int .i64 (eA q:Int),.int .i64 q.up,.bool q.op];have ho2:=(dS HR.out.2.1 hb2).alloc (.cells #[.int .i64 q.mode,.int .i64 (y:Int),.int .i64 (eA q:Int),.int .i64 q.up,.bool q.op] 79);have hB2:Below w1.heap.size w1 (w2.alloc (.cells #[.int .i64 q.mode,.int .i64 (y:Int),.int .i64 (eA q:Int),.int .i64 q.up,.bool q.op] 79)):=(HR.out.2.2.1.trans (hb2.mono HR.out.2.2.1.size)).alloc (by have:=hb2.size;have:=HR.out.2.2.1.size;omega) _;obtain⟨p0,p1,p2,p3,p4⟩:=ej hk2;have hlw2:=hk2.lt;have H2:=aa (ac ho2 (ac hB2 hk2));clear hb2 ho2 hB2 hk2))
              refine cx ?_
              iterate 19
                with_reducible refine cJ (fun K hK=>?_)
                go_simp;refine hK _ _ ?_;clear hK K
              with_reducible refine cT ?_
              go_wp2_with (first
                | (at_builtin
                   refine eD rfl (.tmp 126) (.tmp 134) 139 rfl w1.heap.size 142 i0 _ 3 24 Tryz.underlying139 hi0 hz0 hz1 hz2 rfl (by decide) (.slice A1 out.length c1) out.length (fm out) rfl (H2.out.1.alloc _) (.slice (some ⟨w2.heap.size+1,0,none⟩) 1 1) 1 (w2.heap.size+1+1) (fm [⟨true,false,S⟩]) rfl (lL _ (w2.heap.size+1) (by simp) (fm [⟨true,false,S⟩]) 142 3 1 rfl (by omega)) (gI _) (by unfold maxLen;omega) (by omega) (by have:=H2.out.2.1.size;simp at this ⊢;omega) ?_;intro v3 w3 hown3 hg3 hv3;have hb3:Below w1.heap.size w1 w3:=(H2.out.2.1.alloc (by have:=H2.out.2.1.size;simp at this ⊢;omega) _).grown hg3 (by have:=H2.out.2.1.size;simp at this ⊢;omega) (fun k hk=>(H2.out.1.lt k hk).1);have hk3:=(H2.out.2.2.alloc (.cells (fm [⟨true,false,S⟩]).toArray 142)).grown hg3 (eQ H2.out.1 H2.out.2.2 (by decide)).symm;obtain⟨s0,s1,s2,s3,s4⟩:=ej hk3;have H3:=aa (ac hown3 (ac hb3 hk3));clear hown3 hg3 hv3 hb3 hk3))
              exact⟨⟨mm,eA q,out++[⟨true,false,S⟩],true,_,by go_num,rfl,rfl,by omega,by omega,by simp;omega,uJ HX.out (by omega) (AX (by simp only;omega)),HR.out.1,by rw[gV,aH];exact H3.out.1,H3.out.2.1⟩,by simp[intOf];omega⟩)
    ·have u1:¬(y:Int)<(l.length:Int):=by omega
     rw[aB hy] at hRR;have HR:=aa (ac hRR (ac hown hb));clear hRR hown hb;go_wp2_with fail;go_ret;exact⟨_,rfl,by rw[HR.out.1];exact fK HR.out.2.1 H.out.2.size,H.out.2.trans (HR.out.2.2.mono H.out.2.size)⟩
end Go.Proofs.YtcagfamdoaoimaaGreatDoor
