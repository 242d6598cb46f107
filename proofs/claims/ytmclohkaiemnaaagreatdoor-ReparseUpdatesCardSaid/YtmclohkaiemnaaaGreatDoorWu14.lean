/- The last step of a law: the call answered true and kept all that was there; so the row's post holds. -/
import Derived.Test.YtmclohkaiemnaaaGreatDoorRows
import Derived.Test.YtmclohkaiemnaaaGreatDoorKd14
import Derived.Test.YtmclohkaiemnaaaGreatDoorSt13
import Derived.Test.YtmclohkaiemnaaaGreatDoorDp14
import Derived.WalkKit
import Derived.ProofKit
import Derived.OpenShut
import Derived.ShutString
import Derived.Below
import Derived.ChangeSame
import Derived.Deep.DeepCutAuto
import Derived.Deep.CutBlock
set_option linter.unusedVariables false
set_option linter.unusedSimpArgs false
set_option maxRecDepth 100000
set_option maxHeartbeats 8000000
namespace Go.Proofs.YtmclohkaiemnaaaGreatDoor
section
open Go.ChangeShapes Go.WideShapes Go.ChangeAt Go.RowKit
theorem NE {H:Type} {enc:TypeId×Value→H} {f:Func} {s:ChangeSpec} {apart fresh handsOn again:Bool} {W W':World} {args:Array Value} {ds:List (DataW H)} {pl:List MemPlace}
    (hW:DataW.Whole enc Tryz.prog f.params.toList s.vars apart W args.toList ds [] pl) (hb:Below W.heap.size W W') (hv:s.vars=[])
    (hfn:s.fn H (ds++[])={results:=[.lit (.bool true)],args:=ds,vars:=[]}) (hres:f.resultTypes=#[4])
    (hargs:∀sp:Nat→Bool,(∀p∈pl,sp p.block=true)→DataW.TrodAll enc Tryz.prog W' 0 sp true f.params.toList args.toList ds pl) :
    s.post enc Tryz.prog f apart fresh handsOn again W args (.bool true) W':=by
  have old:∀p∈pl,p.block<W.heap.size:=fun p hp=>hW.lt p hp
  have hR:∀(b:Nat) (sp:Nat→Bool) (hd:Bool),DataW.TrodAll enc Tryz.prog W' b sp hd f.resultTypes.toList ((Value.bool true).resultList f.resultTypes.size) (s.fn H (ds++[])).results []:=by
    intro b sp hd;rw[hres,hfn];exact trodAll_cons_mk (shut_bool Tryz.underlying4 _) trodAll_mk0
  have hA:∀sp:Nat→Bool,(∀p∈pl,sp p.block=true)→DataW.TrodAll enc Tryz.prog W' 0 sp true f.params.toList args.toList (s.fn H (ds++[])).args pl:=by
    intro sp h;rw[hfn];exact hargs sp h
  have hV:∀sp:Nat→Bool,DataW.TrodVars enc Tryz.prog W' sp s.vars (s.fn H (ds++[])).vars []:=by
    intro sp;rw[hfn,hv];rfl
  refine⟨ds,[],pl,[],pl,[],hW,hR _ _ _,hA _ (fun p hp=>by simpa using old p hp),hV _,World.keptBut_mono (fun p hp=>⟨hp,?_⟩) (hb.frame (· ∈ pl)),fun _=>?_⟩
  ·simpa using hp
  ·obtain⟨_,_,_,_,_,hz,hn⟩:=hW;refine⟨?_,_,_,pl++[],⟨[]++pl,[],trodAll_append (hA _ (fun _ _=>rfl)) (hR _ _ _),hV _,by simp,?_,?_⟩,?_⟩
   ·exact ok_one (by rw[hres]) rfl (okWide_bool_mk Tryz.underlying4 _)
   ·intro b off hp;have hin:MemPlace.cell b off∈pl:=by simpa using hp
    rw[hb.frozen (old _ hin)];exact hz b off hin
   ·intro ha;simpa using hn ha
   ·intro p hp _;simpa using hp
end
end Go.Proofs.YtmclohkaiemnaaaGreatDoor
set_option linter.unusedVariables false
set_option linter.unusedSimpArgs false
set_option maxRecDepth 100000
set_option maxHeartbeats 8000000
namespace Go.Proofs.YtmclohkaiemnaaaGreatDoor
open Go.RowKit
theorem IR (F G:List Lf) (olA nwrA:Option Addr) (oc nc:Nat) (w:World) (hF:FB F) (hG:FB G) (ho:Rd w w.heap.size 4 (.slice olA G.length oc) G.length (gv G)) (hn:Rd w w.heap.size 4 (.slice nwrA F.length nc) F.length (gv F)) :
    jJ 9 #[.slice olA G.length oc,.slice nwrA F.length nc] w (.int .i64 (sf F G:Int)):=by
  have hFn:=hF.n;have hGn:=hG.n;have hpF:=ow F;have hpG:=ow G;have kco:=pP G _ w hG ho;have kcn:=fun W (hb:Below w.heap.size w W)=>pP F (.slice nwrA F.length nc) W hF ((hn.keep hb (au _)).mono hb.size)
  obtain⟨La,hLa⟩:∃La,La=(ei G).l:=⟨_,rfl⟩;obtain⟨Lb,hLb⟩:∃Lb,Lb=(ei F).l:=⟨_,rfl⟩;obtain⟨HD,hHD⟩:∃HD,HD=mT G F:=⟨_,rfl⟩;obtain⟨TL,hTL⟩:∃TL,TL=zE (G.drop HD) (F.drop HD):=⟨_,rfl⟩;have hd1:=(pC G F).1;have hd2:=(pC G F).2;rw[←hHD] at hd1 hd2;have tl1:=(qU (G.drop HD) (F.drop HD)).1;have tl2:=(qU (G.drop HD) (F.drop HD)).2;rw[←hTL,aZ] at tl1 tl2;have rz:=fun j=>Nl G (by omega) j
  have hup:∀(i:Nat) (x:Nd),Lb[i]? = some x→x.up<(Lb.length:Int)∧x.fr≤F.length:=fun i x hx=>by
    rw[hLb] at hx ⊢;have h1:=pW F i x hx;have h2:=(az.1 hx).1;exact⟨by omega,h1.2.1⟩
  rw[←hLa] at kco hpG rz;rw[←hLb] at kcn hpF;have HC:=ac (ae kco (ae kcn (ae hLa (ae hLb (ae rz hup)))));have HR:=ac (ae ho hn);have HT:=ac (ae hHD hTL);clear kco kcn hLa hLb ho hn hF hG hHD hTL rz hup;have key:F.length<G.length∨¬F.length<G.length:=by omega
  rcases key with k|k
  case' inl=>
    have u0:decide (F.length<G.length)=true:=aG (by omega);have UL:∀n:Nat,¬(n<G.length∧n<F.length)→decide (n<F.length)=false:=fun n h=>aE (by omega)
    have VL:∃M:Nat,IntKind.i64.wrap ((F.length:Int)-(HD:Int))=(M:Int)∧M+HD≤G.length∧M+HD≤F.length∧∀n,¬n<M→G.length≤n+HD∨F.length≤n+HD:=⟨F.length-HD,by rw[aO _ (by omega)];omega,by omega,by omega,fun n h=>by omega⟩
  case' inr=>
    have u0:decide (F.length<G.length)=false:=aE (by omega);have UL:∀n:Nat,¬(n<G.length∧n<F.length)→decide (n<G.length)=false:=fun n h=>aE (by omega)
    have VL:∃M:Nat,IntKind.i64.wrap ((G.length:Int)-(HD:Int))=(M:Int)∧M+HD≤G.length∧M+HD≤F.length∧∀n,¬n<M→G.length≤n+HD∨F.length≤n+HD:=⟨G.length-HD,by rw[aO _ (by omega)];omega,by omega,by omega,fun n h=>by omega⟩
  all_goals (
    have HU:=ac UL;have HV:=ac VL;clear UL VL k;go_enter Tryz.func9,Tryz.ntmps9;go_upto_block 0 with (
      (go_at_call 7
       first
         | (with_reducible refine HC.out.1.mono ?_
            rintro e w1 ⟨v,rfl,h1,hb⟩;obtain⟨A1,n1,c1,rfl⟩:=eA h1;obtain rfl:=ff h1;have H1:=ac (ae h1 hb);clear h1 hb)
         | (with_reducible refine(HC.out.2.1 _ H1.out.2).mono ?_
            rintro e w2 ⟨v,rfl,h2,hb⟩;obtain⟨A2,n2,c2,rfl⟩:=eA h2;obtain rfl:=ff h2;have H2:=ac (ae (eC H1.out.1 hb) (ae h2 (H1.out.2.trans (hb.mono H1.out.2.size))));clear h2 hb)))
    go_cut [8] (fun s wx=>s=.int .i64 (HD:Int)∧Below w2.heap.size w2 wx)
    case first=>
      go_wp2_with fail;go_loopw [8] (fun s wr=>∃n:Nat,n≤900∧s=.int .i64 (n:Int)∧HD=n+mT (G.drop n) (F.drop n)∧Below w2.heap.size w2 wr) (fun s _=>(F.length+G.length)-(intOf s).toNat)
      case atStart=>exact⟨0,bq _,rfl,by rw[HT.out.1];simp,ay _ _⟩
      case round=>
        obtain⟨n,hle,rfl,hh,hb⟩:=hrel;by_cases hc:n<G.length∧n<F.length
        ·obtain⟨hc1,hc2⟩:=hc;obtain⟨x,hx⟩:∃x,G[n]? = some x:=⟨_,ax hc1⟩;obtain⟨y,hy⟩:∃y,F[n]? = some y:=⟨_,ax hc2⟩;rw[qy hx hy] at hh;obtain⟨g1,o1,rfl,x0,x1,x2,x3⟩:=qo (HR.out.1.keep (H2.out.2.2.trans (hb.mono H2.out.2.2.size)) (au _)) hx rfl;obtain⟨g2,o2,rfl,y0,y1,y2,y3⟩:=qo (HR.out.2.keep (H2.out.2.2.trans (hb.mono H2.out.2.2.size)) (au _)) hy rfl;have u1:(n:Int)<(G.length:Int):=by omega
         have u2:(n:Int)<(F.length:Int):=by omega
         have u3:(0:Int)≤(n:Int):=by omega
         have ca:=xO x y;obtain⟨b,hbb⟩:∃b,b=Cn x y:=⟨_,rfl⟩;rw[←hbb] at ca hh;have HW:=ac (show Below w2.heap.size w2 wr.drew from dX hb 1);have HC:=ac (ae ca hh);clear ca hh hb hx hy hbb;replace x0:wr.drew.cell? ⟨g1,o1+n*4,none⟩=some (.int .i64 x.kd):=x0;replace x1:wr.drew.cell? ⟨g1,o1+n*4+1,none⟩=some (.string ⟨x.tx.toArray⟩):=x1;replace x2:wr.drew.cell? ⟨g1,o1+n*4+2,none⟩=some (.int .i64 x.fr):=x2;replace x3:wr.drew.cell? ⟨g1,o1+n*4+3,none⟩=some (.int .i64 (tE x)):=x3;replace y0:wr.drew.cell? ⟨g2,o2+n*4,none⟩=some (.int .i64 y.kd):=y0;replace y1:wr.drew.cell? ⟨g2,o2+n*4+1,none⟩=some (.string ⟨y.tx.toArray⟩):=y1;replace y2:wr.drew.cell? ⟨g2,o2+n*4+2,none⟩=some (.int .i64 y.fr):=y2;replace y3:wr.drew.cell? ⟨g2,o2+n*4+3,none⟩=some (.int .i64 (tE y)):=y3
         cases b;all_goals (
           go_wp2_with fail
           go_region_held3 (fun w'=>w'.cell? ⟨g1,o1+n*4,none⟩=some (.int .i64 x.kd)∧w'.cell? ⟨g1,o1+n*4+1,none⟩=some (.string ⟨x.tx.toArray⟩)∧w'.cell? ⟨g1,o1+n*4+2,none⟩=some (.int .i64 x.fr)∧w'.cell? ⟨g1,o1+n*4+3,none⟩=some (.int .i64 (tE x))∧w'.cell? ⟨g2,o2+n*4,none⟩=some (.int .i64 y.kd)∧w'.cell? ⟨g2,o2+n*4+1,none⟩=some (.string ⟨y.tx.toArray⟩)∧w'.cell? ⟨g2,o2+n*4+2,none⟩=some (.int .i64 y.fr)∧w'.cell? ⟨g2,o2+n*4+3,none⟩=some (.int .i64 (tE y)))
            (first|with_reducible exact⟨x0,x1,x2,x3,y0,y1,y2,y3⟩|exact⟨x0,x1,x2,x3,y0,y1,y2,y3⟩)
            (
             (go_at_call 27;refine(HC.out.1 _).mono ?_;rintro e w9 ⟨rfl,hb2⟩;have HW2:=ac (HW.out.trans (hb2.mono HW.out.size));have x0:=jc hb2 x0;have x1:=jc hb2 x1;have x2:=jc hb2 x2;have x3:=jc hb2 x3;have y0:=jc hb2 y0;have y1:=jc hb2 y1;have y2:=jc hb2 y2;have y3:=jc hb2 y3;clear hb2)))
         ·have e:=HC.out.2;rw[aC dk,cQ] at e;have HE:=ac e;clear e x0 x1 x2 x3 y0 y1 y2 y3;go_wp2_with fail;go_meet;exact⟨by rw[HE.out],HW2.out⟩
         ·have e:=HC.out.2;rw[aB trivial] at e;have HE:=ac e;clear e x0 x1 x2 x3 y0 y1 y2 y3;go_wp2_with fail;exact⟨⟨n+1,by omega,by go_num,by rw[HE.out];omega,HW2.out⟩,by simp[intOf];omega⟩
        ·have e:=oI (A:=G) (B:=F) (n:=n) (by omega);rw[e,cQ] at hh;have HE:=ac (ae hh hb);clear hh hb e;have u1:=HU.out n hc;clear hc;go_wp2_with fail;go_quiet (fail);go_wp2_with fail;go_meet;exact⟨by rw[HE.out.1],dX HE.out.2 _⟩
    case rest=>
      obtain⟨rfl,hbc⟩:=hcut
      rename World=>wrA
      have H3:=ac (show Below w2.heap.size w2 wrA from hbc);clear hbc;obtain⟨M,eqM,m1,m2,hM⟩:=HV.out;have HM:=ac hM;clear hM;go_upto_block 2 with fail
      go_cut [9] (fun s wx=>s=.int .i64 (TL:Int)∧Below wrA.heap.size wrA wx)
      case first=>
        go_wp2_with fail;go_loopw [9] (fun s wr=>∃n:Nat,n≤900∧s=.int .i64 (n:Int)∧TL=n+mT ((G.drop HD).reverse.drop n) ((F.drop HD).reverse.drop n)∧Below wrA.heap.size wrA wr) (fun s _=>(F.length+G.length)-(intOf s).toNat)
        case atStart=>exact⟨0,bq _,rfl,by rw[HT.out.2];unfold zE;simp,ay _ _⟩
        case round=>
          obtain⟨n,hle,rfl,hh,hb⟩:=hrel;by_cases hc:n<M
          ·have hw:=H2.out.2.2.trans ((H3.out.trans (hb.mono H3.out.size)).mono H2.out.2.2.size);obtain⟨ix1,hia⟩:∃i,i=G.length-1-n:=⟨_,rfl⟩;obtain⟨ix2,hib⟩:∃i,i=F.length-1-n:=⟨_,rfl⟩;obtain⟨x,hx⟩:∃x,G[ix1]? = some x:=⟨_,ax (by omega)⟩;obtain⟨y,hy⟩:∃y,F[ix2]? = some y:=⟨_,ax (by omega)⟩;rw[qy (n:=n) (x:=x) (y:=y) (Es (by rw[←hia];exact hx) (by omega)) (Es (by rw[←hib];exact hy) (by omega))] at hh;have v1:IntKind.i64.wrap ((G.length:Int)-1)=(G.length:Int)-1:=aO _ (by omega);have v2:IntKind.i64.wrap ((G.length:Int)-1-(n:Int))=(ix1:Int):=by rw[aO _ (by omega)];omega
           have v3:IntKind.i64.wrap ((F.length:Int)-1)=(F.length:Int)-1:=aO _ (by omega);have v4:IntKind.i64.wrap ((F.length:Int)-1-(n:Int))=(ix2:Int):=by rw[aO _ (by omega)];omega
           have w1':(ix1:Int)<(G.length:Int):=by omega
           have w2':(ix2:Int)<(F.length:Int):=by omega
           have w3':(0:Int)≤(ix1:Int):=by omega
           have w4':(0:Int)≤(ix2:Int):=by omega
           obtain⟨g1,o1,rfl,x0,x1,x2,x3⟩:=qo (HR.out.1.keep hw (au _)) hx rfl;obtain⟨g2,o2,rfl,y0,y1,y2,y3⟩:=qo (HR.out.2.keep hw (au _)) hy rfl;have u1:decide (n<M)=true:=aG hc;clear hia hib hw;have ca:=xO x y;obtain⟨b,hbb⟩:∃b,b=Cn x y:=⟨_,rfl⟩;rw[←hbb] at ca hh;have HW:=ac (show Below wrA.heap.size wrA wr.drew from dX hb 1);have HC:=ac (ae ca hh);clear ca hh hb hx hy hbb;replace x0:wr.drew.cell? ⟨g1,o1+ix1*4,none⟩=some (.int .i64 x.kd):=x0;replace x1:wr.drew.cell? ⟨g1,o1+ix1*4+1,none⟩=some (.string ⟨x.tx.toArray⟩):=x1;replace x2:wr.drew.cell? ⟨g1,o1+ix1*4+2,none⟩=some (.int .i64 x.fr):=x2;replace x3:wr.drew.cell? ⟨g1,o1+ix1*4+3,none⟩=some (.int .i64 (tE x)):=x3;replace y0:wr.drew.cell? ⟨g2,o2+ix2*4,none⟩=some (.int .i64 y.kd):=y0;replace y1:wr.drew.cell? ⟨g2,o2+ix2*4+1,none⟩=some (.string ⟨y.tx.toArray⟩):=y1;replace y2:wr.drew.cell? ⟨g2,o2+ix2*4+2,none⟩=some (.int .i64 y.fr):=y2;replace y3:wr.drew.cell? ⟨g2,o2+ix2*4+3,none⟩=some (.int .i64 (tE y)):=y3
           cases b;all_goals (
             go_wp2_with fail
             go_region_held3 (fun w'=>w'.cell? ⟨g1,o1+ix1*4,none⟩=some (.int .i64 x.kd)∧w'.cell? ⟨g1,o1+ix1*4+1,none⟩=some (.string ⟨x.tx.toArray⟩)∧w'.cell? ⟨g1,o1+ix1*4+2,none⟩=some (.int .i64 x.fr)∧w'.cell? ⟨g1,o1+ix1*4+3,none⟩=some (.int .i64 (tE x))∧w'.cell? ⟨g2,o2+ix2*4,none⟩=some (.int .i64 y.kd)∧w'.cell? ⟨g2,o2+ix2*4+1,none⟩=some (.string ⟨y.tx.toArray⟩)∧w'.cell? ⟨g2,o2+ix2*4+2,none⟩=some (.int .i64 y.fr)∧w'.cell? ⟨g2,o2+ix2*4+3,none⟩=some (.int .i64 (tE y)))
              (first|with_reducible exact⟨x0,x1,x2,x3,y0,y1,y2,y3⟩|exact⟨x0,x1,x2,x3,y0,y1,y2,y3⟩)
              (
               (go_at_call 27;refine(HC.out.1 _).mono ?_;rintro e w9 ⟨rfl,hb2⟩;have HW2:=ac (HW.out.trans (hb2.mono HW.out.size));have x0:=jc hb2 x0;have x1:=jc hb2 x1;have x2:=jc hb2 x2;have x3:=jc hb2 x3;have y0:=jc hb2 y0;have y1:=jc hb2 y1;have y2:=jc hb2 y2;have y3:=jc hb2 y3;clear hb2)))
           ·have e:=HC.out.2;rw[aC dk,cQ] at e;have HE:=ac e;clear e x0 x1 x2 x3 y0 y1 y2 y3;go_wp2_with fail;go_meet;exact⟨by rw[HE.out],HW2.out⟩
           ·have e:=HC.out.2;rw[aB trivial] at e;have HE:=ac e;clear e x0 x1 x2 x3 y0 y1 y2 y3;go_wp2_with fail;exact⟨⟨n+1,by omega,by go_num,by rw[HE.out];omega,HW2.out⟩,by simp[intOf];omega⟩
          ·have e:=oI (A:=(G.drop HD).reverse) (B:=(F.drop HD).reverse) (n:=n) (by rw[List.length_reverse,List.length_reverse,aZ,aZ];have:=HM.out n hc;omega);rw[e,cQ] at hh;have HE:=ac (ae hh hb);clear hh hb e;have u1:decide (n<M)=false:=aE hc;clear hc;go_wp2_with fail;go_quiet (fail);go_wp2_with fail;go_meet;exact⟨by rw[HE.out.1],dX HE.out.2 _⟩
      case rest=>
        obtain⟨rfl,hbc⟩:=hcut
        rename World=>wrB
        have H4:=ac (show Below wrA.heap.size wrA wrB from hbc);clear hbc;go_wp2_with fail;go_loopw [10,11] (fun s i wr=>∃k:Nat,k≤Lb.length∧i=.int .i64 (k:Int)∧s=.int .i64 (MU F G k:Int)∧Below wrB.heap.size wrB wr) (fun s i _=>Lb.length-(intOf i).toNat)
        case atStart=>exact⟨0,bq _,rfl,rfl,ay _ _⟩
        case round=>
          obtain⟨k,hk,rfl,rfl,hb⟩:=hrel;have hw2:Below w2.heap.size w2 wr:=H3.out.trans ((H4.out.trans (hb.mono H4.out.size)).mono H3.out.size);by_cases hlt:k<Lb.length
          ·have u1:(k:Int)<(Lb.length:Int):=by omega
           have u2:(0:Int)≤(k:Int):=by omega
           obtain⟨x,hx⟩:∃x,Lb[k]? = some x:=⟨_,ax hlt⟩;have hrb:=Rd.of_own (eC H2.out.2.1 hw2);have hra:∀W,Below wr.heap.size wr W→Rd W W.heap.size 4 (.slice A1 La.length c1) La.length (fm La):=fun W hW=>Rd.of_own (eC (eC H2.out.1 hw2) hW)
           obtain⟨hxu,hxf⟩:=HC.out.2.2.2.2.2 k x hx;have ct:=Ep Lb k c2 A2 x wr (by omega) hx hxu hrb;obtain⟨g,o,rfl,_,hc⟩:=fW gu hrb hx rfl;have y1:wr.cell? ⟨g,o+k*4+1,none⟩=some (.int .i64 (x.fr:Int)):=hc 1 _ rfl;have hs:=FQ F G (k:=k) (x:=x) (by rw[←HC.out.2.2.2.1];exact hx);rw[←HC.out.2.2.2.1] at hs;obtain⟨T,hT⟩:∃T,T=ju Lb k:=⟨_,rfl⟩;rw[←hT] at ct hs;have hkl:=Mf F G k;obtain⟨K,hK⟩:∃K,K=MU F G k:=⟨_,rfl⟩;rw[←hK] at hs hkl ⊢;obtain⟨p,hp⟩:∃p,p=x.fr:=⟨_,rfl⟩;rw[←hp] at y1 hs hxf;have HB:=ac hb;have HTp:=ac ct;clear hb ct hT hx hc hxu hK hp hrb
           cases T
           ·have HS:=ac hs;clear hs hra;go_wp2_with (
              (go_at_call 28;with_reducible refine HTp.out.mono ?_
               rintro e w5 ⟨rfl,m,rfl⟩))
            exact⟨⟨k+1,by omega,by go_num,by rw[HS.out];rfl,dX HB.out _⟩,by simp[intOf];omega⟩
           ·rw[aB rfl] at hs;obtain⟨z,hz1,⟨hz2,hz3⟩,hz4⟩:=HC.out.2.2.2.2.1 p;have cza:=fun W (hW:Below wr.heap.size wr W)=>hz4 A1 c1 W (hra W hW)
            have HZ:=ac cza;clear hz4 cza;have v1:IntKind.i64.wrap ((K:Int)+1)=(K:Int)+1:=aO _ (by omega);have v2:IntKind.i64.wrap (z+2)=z+2:=aO _ (by omega);rw[HC.out.2.2.1] at hz1;have k18:(0≤z∧z+2≤(HD:Int))∨z<0∨(0≤z∧¬z+2≤(HD:Int)):=by omega
            rcases k18 with ⟨d0,d1⟩|k18
            ·rw[Oo hz1 d0 (by rw[←HT.out.1];exact d1)] at hs;have HS:=ac hs;clear hs hra hz1
             go_wp2_with (first
               | (go_at_call 28;with_reducible refine HTp.out.mono ?_
                  rintro e w5 ⟨rfl,m,rfl⟩)
               | (go_at_call 29;with_reducible refine(HZ.out _ (dX (ay _ wr) _)).mono ?_
                  rintro e w6 ⟨rfl,hb6⟩;have H6:=ac (show Below wr.heap.size wr w6 from (dX (ay _ wr) _).trans hb6);clear hb6))
             exact⟨⟨k+1,by omega,by go_num,by rw[HS.out];go_num,HB.out.trans (H6.out.mono HB.out.size)⟩,by simp[intOf];omega⟩
            ·have hno:¬(0≤z∧z+2≤(mT G F:Int)):=by rw[←HT.out.1];omega
             obtain⟨q,hq⟩:∃q,q=F.length-TL:=⟨_,rfl⟩;have v3:IntKind.i64.wrap ((F.length:Int)-(TL:Int))=(q:Int):=by rw[aO _ (by omega)];omega
             by_cases h20:q≤p
             ·obtain⟨j,hj⟩:∃j,j=p+G.length-F.length:=⟨_,rfl⟩;have v4:IntKind.i64.wrap ((p:Int)-(F.length:Int))=(p:Int)-(F.length:Int):=aO _ (by omega);have v5:IntKind.i64.wrap ((p:Int)-(F.length:Int)+(G.length:Int))=(j:Int):=by rw[aO _ (by omega)];omega
              have d2:decide (q≤p)=true:=aG h20;obtain⟨y,hy1,⟨hy2,hy3⟩,hy4⟩:=HC.out.2.2.2.2.1 j;have cya:=fun W (hW:Below wr.heap.size wr W)=>hy4 A1 c1 W (hra W hW)
              have HY:=ac cya;clear hy4 cya;rw[HC.out.2.2.1] at hy1;rw[Om hz1 hno (by rw[←HT.out.1,←HT.out.2];omega) (by omega) hy1] at hs;by_cases d3:0≤y
              case' pos=>rw[aB d3] at hs
              case' neg=>rw[aC d3] at hs
              all_goals (
                have HS:=ac hs;clear hs hra hz1 hy1 hno hj hq h20;rcases k18 with d0|⟨d0,d1⟩
                all_goals (
                  go_wp2_with (first
                    | (go_at_call 28;with_reducible refine HTp.out.mono ?_
                       rintro e w5 ⟨rfl,m,rfl⟩)
                    | (go_at_call 29
                       first
                         | (with_reducible refine(HZ.out _ (dX (ay _ wr) _)).mono ?_
                            rintro e w6 ⟨rfl,hb6⟩;have H6:=ac (show Below wr.heap.size wr w6 from (dX (ay _ wr) _).trans hb6);have y1:=jc H6.out y1;clear hb6)
                         | (with_reducible refine(HY.out _ H6.out).mono ?_
                            rintro e w7 ⟨rfl,hb7⟩;have H7:=ac (show Below wr.heap.size wr w7 from H6.out.trans (hb7.mono H6.out.size));clear hb7)))
                  exact⟨⟨k+1,by omega,by go_num,by rw[HS.out];go_num,HB.out.trans (H7.out.mono HB.out.size)⟩,by simp[intOf];omega⟩))
             ·have d2:decide (q≤p)=false:=aE h20;rw[On hz1 hno (by rw[←HT.out.1,←HT.out.2];omega)] at hs;have HS:=ac hs;clear hs hra hz1 hno hq h20;rcases k18 with d0|⟨d0,d1⟩
              all_goals (
                go_wp2_with (first
                  | (go_at_call 28;with_reducible refine HTp.out.mono ?_
                     rintro e w5 ⟨rfl,m,rfl⟩)
                  | (go_at_call 29;with_reducible refine(HZ.out _ (dX (ay _ wr) _)).mono ?_
                     rintro e w6 ⟨rfl,hb6⟩;have H6:=ac (show Below wr.heap.size wr w6 from (dX (ay _ wr) _).trans hb6);have y1:=jc H6.out y1;clear hb6))
                exact⟨⟨k+1,by omega,by go_num,by rw[HS.out];go_num,HB.out.trans (H6.out.mono HB.out.size)⟩,by simp[intOf];omega⟩)
          ·obtain rfl:k=Lb.length:=by omega
           have HB:=ac (H2.out.2.2.trans (hw2.mono H2.out.2.2.size));clear hb hw2;go_wp2_with fail;go_ret;exact⟨by rw[HC.out.2.2.2.1];rfl,HB.out⟩)
end Go.Proofs.YtmclohkaiemnaaaGreatDoor
set_option linter.unusedVariables false
set_option linter.unusedSimpArgs false
set_option maxRecDepth 100000
set_option maxHeartbeats 8000000
namespace Go.Proofs.YtmclohkaiemnaaaGreatDoor
open Go.RowKit
theorem Ei {F:List Lf} (h:Hy F 30=true):FB F:=by
  unfold Hy at h;rw[aR] at h;have h1:=cW h.1;exact⟨by omega,fun x hx=>by have:x.tx.length≤60:=cW (bV.1 h.2 x hx);omega⟩
theorem CH (G:List Lf) (A:Option Addr) (n c:Nat) (F:List Lf) (A':Option Addr) (n' c':Nat) (w:World) (hrd:Rd w w.heap.size 4 (.slice A n c) n (gv G)) (hn:n=G.length) (hm:n≤9223372036854775807) (hrd':Rd w w.heap.size 4 (.slice A' n' c') n' (gv F)) (hn':n'=F.length) (hm':n'≤9223372036854775807) :
    jJ 3 #[.slice A n c,.slice A' n' c'] w (.bool true):=by
  subst hn hn';have hR0:∀W,Below w.heap.size w W→Rd W W.heap.size 4 (.slice A G.length c) G.length (gv G):=fun W hW=>(hrd.keep hW (au _)).mono hW.size
  have hR1:∀W,Below w.heap.size w W→Rd W W.heap.size 4 (.slice A' F.length c') F.length (gv F):=fun W hW=>(hrd'.keep hW (au _)).mono hW.size
  have s0:=fun W (hW:Below w.heap.size w W)=>Bt G A c 30 W hm (hR0 W hW)
  have s1:=fun W (hW:Below w.heap.size w W)=>Bt F A' c' 30 W hm' (hR1 W hW)
  obtain⟨sh0,hs0⟩:∃b,b=Hy G 30:=⟨_,rfl⟩;obtain⟨sh1,hs1⟩:∃b,b=Hy F 30:=⟨_,rfl⟩;rw[←hs0] at s0;rw[←hs1] at s1;have HS:=ac (ae s0 s1);have HR:=ac (ae hR0 hR1);have HQ:=ac (ae hs0 hs1);clear s0 s1 hR0 hR1 hs0 hs1 hrd hrd'
  cases sh0
  case' true=>cases sh1
  case' true.true=>
    have hG:=Ei HQ.out.1.symm;have hF:=Ei HQ.out.2.symm;have hpl:=ow F;have hfn:=hF.n;have p0:=fun W (hW:Below w.heap.size w W)=>pP G (.slice A G.length c) W hG (HR.out.1 W hW)
    have p1:=fun W (hW:Below w.heap.size w W)=>pP F (.slice A' F.length c') W hF (HR.out.2 W hW)
    have kup:=fun (lA:Option Addr) (lcp:Nat) W (hW:Below w.heap.size w W) hl=>xh F G A lA A' c lcp c' W hF hG (HR.out.1 W hW) hl (HR.out.2 W hW)
    have kk:=fun W (hW:Below w.heap.size w W)=>IR F G A A' c c' W hF hG (HR.out.1 W hW) (HR.out.2 W hW)
    have ks:=fun (A1 A2:Option Addr) (c1 c2:Nat) (W:World)=>zQ (ei F).l A1 A2 c1 c2 W (by omega)
    obtain⟨La,hLa⟩:∃La,La=(ei G).l:=⟨_,rfl⟩;obtain⟨Lb,hLb⟩:∃Lb,Lb=(ei F).l:=⟨_,rfl⟩;obtain⟨kpn,hkn⟩:∃kpn,kpn=sf F G:=⟨_,rfl⟩;rw[←hLa] at p0 kup;rw[←hLb] at p1 kup ks;rw[←hkn] at kup kk;have HP:=ac (ae p0 (ae p1 (ae kup (ae kk ks))));clear p0 p1 kup kk ks hLa hLb hkn hG hF hpl hfn
  all_goals (
    clear HQ HR;go_enter Tryz.func3,Tryz.ntmps3
    go_wp2_with (first
      | (go_at_call 4;refine(Dq _).mono ?_;rintro e w1 ⟨rfl,hb⟩;have H1:=ac hb;clear hb)
      | (go_at_call 5
         first
           | (with_reducible refine(HS.out.1 _ H1.out).mono ?_
              rintro e w2 ⟨rfl,rfl⟩)
           | (with_reducible refine(HS.out.2 _ H1.out).mono ?_
              rintro e w2 ⟨rfl,rfl⟩))
      | (go_at_call 7
         first
           | (with_reducible refine(HP.out.1 _ H1.out).mono ?_
              rintro e w3 ⟨v,rfl,ho,hb⟩;obtain⟨A3,n3,c3,rfl⟩:=eA ho;obtain rfl:=ff ho;have H3:=ac (ae (Rd.of_own ho) (H1.out.trans (hb.mono H1.out.size)));clear ho hb)
           | (with_reducible refine(HP.out.2.1 _ H4.out.2).mono ?_
              rintro e w5 ⟨v,rfl,ho,hb⟩;obtain⟨A5,n5,c5,rfl⟩:=eA ho;obtain rfl:=ff ho;have H5:=ac (ae (Rd.of_own (eC H4.out.1 hb)) (ae (Rd.of_own ho) (H4.out.2.trans (hb.mono H4.out.2.size))));clear ho hb))
      | (go_at_call 6;with_reducible refine(HP.out.2.2.1 _ _ _ H3.out.2 H3.out.1).mono ?_
         rintro e w4 ⟨v,rfl,ho,hb⟩;obtain⟨A4,n4,c4,rfl⟩:=eA ho;obtain rfl:=ff ho;have H4:=ac (ae ho (H3.out.2.trans (hb.mono H3.out.2.size)));clear ho hb)
      | (go_at_call 8;with_reducible refine(HP.out.2.2.2.2 _ _ _ _ _ H5.out.1 H5.out.2.1).mono ?_
         rintro e w6 ⟨rfl,hb⟩;have H6:=ac (H5.out.2.2.trans (hb.mono H5.out.2.2.size));clear hb)
      | (go_at_call 9;with_reducible refine(HP.out.2.2.2.1 _ H6.out).mono ?_
         rintro e w7 ⟨rfl,hb⟩;have H7:=ac (H6.out.trans (hb.mono H6.out.size));clear hb)
      | fail)
    go_ret
    first
      | exact⟨rfl,H7.out⟩
      | exact⟨rfl,H1.out⟩)
end Go.Proofs.YtmclohkaiemnaaaGreatDoor
