/- MotionMates: quillwortref29.Mate. -/
import Derived.Test.YtcagfamdoaoimaaGreatDoorZm29
import Derived.Test.YtcagfamdoaoimaaGreatDoorWs13
import Derived.Test.YtcagfamdoaoimaaGreatDoorLv9
import Derived.Test.YtcagfamdoaoimaaGreatDoorSt13
import Derived.Deep.DeepCutAuto
import Derived.Deep.CutBlock
set_option linter.unusedVariables false
set_option linter.unusedSimpArgs false
set_option maxRecDepth 100000
set_option maxHeartbeats 8000000
namespace Go.Proofs.YtcagfamdoaoimaaGreatDoor
open Go.RowKit
theorem leaves_end (l:List UInt8):∀(ts:List Tk) (x:Nat),ve l ts x→∀y∈fG l (ts.map uP),y.to=y.fr+(y.tx.length:Int)
  | [],x,_=>fun y hy=>(by have hy:y∈([]:List Lf):=hy;cases hy)
  | t::r,x,⟨h1,h2,h3,h4,h5,h6⟩=>by
    have ih:=leaves_end l r t.to h6;have e:fG l ((t::r).map uP)=kK l (uP t)++fG l (r.map uP):=rfl;rw[e];intro y hy;rcases aZ.1 hy with hy|hy
    ·have h7:=leafZ_tx (by omega) h3 hy;have h8:y.to=(t.to:Int):=(yT hy).2.2.2;omega
    ·exact ih y hy
theorem word_end (l:List UInt8):∀y∈f9 l,y.to=y.fr+(y.tx.length:Int):=leaves_end l _ 0 (q9 l)
def NoM (a:Int) (N:List (Int×Int)):Prop:=∀q∈N,a≠q.1∧a≠q.2
theorem NoM.app {a:Int} {N M:List (Int×Int)} (h:NoM a N) (k:NoM a M):NoM a (N++M):=fun q hq=>by
  rcases aZ.1 hq with hq|hq
  ·exact h q hq
  ·exact k q hq
theorem NoM.one {a:Int} {p:Int×Int} (h1:a≠p.1) (h2:a≠p.2):NoM a [p]:=fun q hq=>by rw[cE.1 hq];exact⟨h1,h2⟩
theorem NoM.nil (a:Int):NoM a []:=fun q hq=>by cases hq
theorem mate_hit {N M:List (Int×Int)} {p:Int×Int} {a:Int} (h:NoM a N) (hp:a=p.1∨a=p.2) (hN:N++[p]<+:M):(sf M a).getD (-1)=if a=p.1 then p.2 else p.1:=by
  rw[vG hN h hp];rfl
theorem mate_no {N:List (Int×Int)} {a:Int} (h:NoM a N):(sf N a).getD (-1) = -1:=by rw[F4 h];rfl
def OwnT (L:List Nd) (i p m:Nat):Prop:=∀(t:Nat) (y:Nd),i<t→t<m→L[t]? = some y→y.up=(i:Int)→¬(y.fr≤p∧p<y.tt)
theorem OwnT.next {L:List Nd} {i p m:Nat} {y:Nd} (hy:L[m]? = some y) (him:i<m):OwnT L i p (m+1)↔OwnT L i p m∧¬(y.up=(i:Int)∧y.fr≤p∧p<y.tt):=by
  constructor
  ·intro h;exact⟨fun t z h1 h2=>h t z h1 (by omega),fun hc=>h m y him (by omega) hy hc.1 hc.2⟩
  ·rintro ⟨h,hc⟩ t z h1 h2 h3 h4 h5;rcases bZ t m with h6|h6
   ·exact h t z h1 h6 h3 h4 h5
   ·obtain rfl:t=m:=by omega
    obtain rfl:=Option.some.inj (h3.symm.trans hy);exact hc ⟨h4,h5⟩
theorem rmate_m (l:List UInt8) (hl:l.length≤900) (a:Int) (w:World) :
    Calls Tryz.prog 22 #[.string ⟨l.toArray⟩,.int .i64 a] w fun e w'=>e=.returned (.int .i64 ((sf (Jc l) a).getD (-1)))∧Below w.heap.size w w':=by
  have hok:=pair_ok l hl;have hFB:=qD l hl;have hto:=word_end l;have c1:=fun W=>C3 l W hl
  rw[show Ju l=f9 l from rfl] at c1;unfold Jc;generalize f9 l=F at *;obtain⟨hrow,r0,hr0⟩:=vA F;have h0:(eP F).l[0]? = some ⟨1,0,F.length, -1⟩:=by rw[hr0];rfl
  have c2:=fun fv W (h:Rd W W.heap.size 4 fv F.length (iF F))=>EJ F fv W hFB h
  generalize (eP F).l=L at *;have hlast:=fun (i:Nat) (x:Nd) (hx:L[i]? = some x)=>last_re (F:=F) hrow h0 hx
  have hle:=fun (i:Nat) (x:Nd) (hx:L[i]? = some x)=>(hrow i x hx).le
  have hown:∀i p,OwnT L i p L.length↔OwnQ L i p:=fun i p=>by
    constructor
    ·intro h t y hy hu;have ht:0<t:=Nat.pos_of_ne_zero fun e=>by
       subst e;rw[h0] at hy
       cases hy
       have:(-1:Int)=(i:Int):=hu
       omega
     obtain⟨u,m,k1,_⟩:=(hrow t y hy).u ht;exact h t y (by omega) (ay.1 hy).1 hy hu
    ·intro h t y _ _ hy hu;exact h t y hy hu
  obtain⟨R,hRe⟩:∃R,R=List.range L.length:=⟨_,rfl⟩;rw[←hRe];have hRl:R.length=L.length:=by rw[hRe];simp
  have hRk:∀k,k<L.length→R[k]? = some k:=fun k hk=>by rw[hRe];simp[hk]
  have hcs:∀x∈F,∀W,Calls Tryz.prog 35 #[LI x] W fun e w'=>e=.returned (.string ⟨[uS x].toArray⟩)∧Below W.heap.size W w':=fun x hx W=>IR x W (by have:=hok.fl.tx x hx;omega)
  have hco:∀x∈F,∀W,Calls Tryz.prog 52 #[.string ⟨x.tx.toArray⟩] W fun e w'=>∃v,e=.returned v∧w'.ownsRow W.heap.size 79 5 v (eC x.tx).length (fw (eC x.tx))∧Below W.heap.size W w':=fun x hx W=>Nb x.tx W (hok.fl.tx x hx)
  obtain⟨N,hN⟩:∃N,N=R.flatMap (ndP F L)++F.flatMap KE:=⟨_,rfl⟩;rw[←hN];obtain⟨V,hV⟩:∃V,V=(sf N a).getD (-1):=⟨_,rfl⟩;rw[←hV];have hhit:∀(M:List (Int×Int)) (p:Int×Int),NoM a M→(a=p.1∨a=p.2)→M++[p]<+:N→V=if a=p.1 then p.2 else p.1:=fun M p h1 h2 h3=>by rw[hV];exact mate_hit h1 h2 h3
  have hno:NoM a N→V = -1:=fun h=>by rw[hV];exact mate_no h
  have hfn:=hok.fl.fn;have hln:=hok.fl.ln;have H:=aa (ac c1 c2);have HK:=aa (ac hok (ac hlast (ac hle (ac hown (ac hRl (ac hRk (ac hcs hco)))))));have HN:=aa (ac hN (ac hhit (ac hno hto)));clear c1 c2 hok hlast hle hown hRl hRk hcs hco hN hhit hno hto hV hRe h0 hr0 hrow hFB;go_enter Tryz.func22,Tryz.ntmps22
  go_wp2_with (first
    | (go_at_call 12;with_reducible refine(H.out.1 _).mono ?_
       rintro e w2 ⟨v,rfl,ho,hb⟩;obtain⟨A,n,c,rfl⟩:=dR ho;obtain rfl:=ei ho;have H2:=aa (ac (Rd.of_own ho) hb);clear ho hb)
    | (go_at_call 14;with_reducible refine(H.out.2 _ _ H2.out.1).mono ?_
       rintro e w4 ⟨v,rfl,ho,hb⟩;obtain⟨A4,n4,c4,rfl⟩:=dR ho;have hn4:=ei ho;subst hn4;have H4:=aa (ac (H2.out.1.next hb) (ac (Rd.of_own ho) (H2.out.2.trans (hb.mono H2.out.2.size))));clear ho hb)
    | fail)
  go_loopw [7] (fun i wr=>∃k:Nat,k≤L.length∧i=.int .i64 k∧NoM a ((R.take k).flatMap (ndP F L))∧Below w4.heap.size w4 wr) (fun i _=>L.length-(intOf i).toNat)
  case atStart=>exact⟨0,bv _,rfl,NoM.nil a,aC _ _⟩
  case round=>
    obtain⟨k,hk,rfl,hnm,hb⟩:=hrel;by_cases hlt:k<L.length
    ·have u1:(k:Int)<(L.length:Int):=by omega
     have u2:(0:Int)≤(k:Int):=by omega
     obtain⟨x,hx⟩:∃x,L[k]? = some x:=⟨_,ax hlt⟩;obtain⟨g4,o4,rfl,_,hc⟩:=iK jk (H4.out.2.1.keep hb (au _)) hx rfl;obtain⟨kd,hkd⟩:∃kd,kd=x.kd:=⟨_,rfl⟩;have z0:wr.cell? ⟨g4,o4+k*4,none⟩=some (.int .i64 (kd:Int)):=by rw[hkd];exact hc 0 _ rfl
     have hsuc:=mX (ndP F L) (HK.out.2.2.2.2.2.1 k hlt);have hpre:=(nS (ndP F L) R (k+1)).trans (List.prefix_append _ (F.flatMap KE));rw[←HN.out.1,hsuc] at hpre;by_cases hcm:9≤kd∧kd≤14
     ·have t1:decide ((kd:Int)<9)=false:=by simp;omega
      have t2:decide ((14:Int)<(kd:Int))=false:=by simp;omega
      have hnd:ndP F L k=if 0≤lastL F L k x then [(frAt F x.fr,frAt F (lastL F L k x).toNat)] else []:=by
        unfold ndP;rw[hx];simp only;rw[aB];rw[←hkd];rcases (by omega:kd=9∨kd=10∨kd=11∨kd=12∨kd=13∨kd=14) with rfl|rfl|rfl|rfl|rfl|rfl<;>decide
      have hne:GT kd≠0:=by
        rcases (by omega:kd=9∨kd=10∨kd=11∨kd=12∨kd=13∨kd=14) with rfl|rfl|rfl|rfl|rfl|rfl<;>decide
      have hl1:=HK.out.2.1 k x hx;have hle:=HK.out.2.2.1 k x hx;have hxn:=HK.out.1.fl.nd x (aO hx);have hpr:=HK.out.1.pr k x hx (by rw[←hkd];exact hne);rw[←hkd] at hl1;have HX:=aa (ac hnm (ac hsuc (ac hpre (ac hnd (ac hl1 (ac hpr (ac hb hx)))))));clear hnm hsuc hpre hnd hl1 hpr hx hkd hc hne;go_upto_region 7 with fail
      go_cut [8] (fun s wx=>s=.string ⟨[GT kd].toArray⟩∧Below w4.heap.size w4 wx)
      case first=>
        clear hle hxn;rcases (by omega:kd=9∨kd=10∨kd=11∨kd=12∨kd=13∨kd=14) with rfl|rfl|rfl|rfl|rfl|rfl
        all_goals (
          go_quiet (fail);go_wp2_with fail;go_meet;exact⟨by first|rfl|decide +kernel,dN HX.out.2.2.2.2.2.2.1 _⟩)
      case rest=>
        as_aux_lemma=>
          obtain⟨rfl,hb1⟩:=hcut;obtain⟨sg,hsg⟩:∃sg,sg=GT kd:=⟨_,rfl⟩;rw[←hsg];obtain⟨_,_,he,_,hc⟩:=iK jk (H4.out.2.1.keep hb1 (au _)) HX.out.2.2.2.2.2.2.2 rfl
          cases he;obtain⟨xfr,hxf⟩:∃xfr,xfr=x.fr:=⟨_,rfl⟩;obtain⟨xtt,hxt⟩:∃xtt,xtt=x.tt:=⟨_,rfl⟩;have z1:wc.cell? ⟨g4,o4+k*4+1,none⟩=some (.int .i64 (xfr:Int)):=by rw[hxf];exact hc 1 _ rfl
          rw[←hxf,←hxt] at hle hxn;have HE:=aa (ac hb1 (ac hxf (ac hxt hsg)));clear hb1 hc hxf hxt hsg z0 t1 t2;go_wp2_with fail;go_loopw [9,10] (fun z p wx=>∃(zvl:Int) (q:Nat),z=.int .i64 zvl∧p=.int .i64 q∧xfr≤q∧q≤xtt∧RE F L k sg xfr q zvl∧Below w4.heap.size w4 wx) (fun z p _=>xtt-(intOf p).toNat)
          case atStart=>exact⟨-1,xfr,rfl,rfl,au _,hle,RE.start F L k sg xfr,HE.out.1⟩
          case round=>
            as_aux_lemma=>
              obtain⟨zvl,q,rfl,rfl,hq1,hq2,hre,hb2⟩:=hrel;obtain⟨_,_,he,_,hc⟩:=iK jk (H4.out.2.1.keep hb2 (au _)) HX.out.2.2.2.2.2.2.2 rfl
              cases he;have z2:wr.cell? ⟨g4,o4+k*4+2,none⟩=some (.int .i64 (xtt:Int)):=by rw[HE.out.2.2.1];exact hc 2 _ rfl
              have z1:wr.cell? ⟨g4,o4+k*4+1,none⟩=some (.int .i64 (xfr:Int)):=by rw[HE.out.2.1];exact hc 1 _ rfl
              by_cases hqt:q<xtt
              ·have t3:decide ((q:Int)<(xtt:Int))=true:=by simp;omega
               have HR:=aa (ac hre hb2);clear hre hb2 hc z1;have hq0:q<F.length:=by omega
               obtain⟨y,hy⟩:∃y,F[q]? = some y:=⟨_,ax hq0⟩;obtain⟨g2,o2,rfl,_,hcf⟩:=iK (lay:=LJ) (fun _=>rfl) (H4.out.1.keep HR.out.2 (au _)) hy rfl;have f0:wr.cell? ⟨g2,o2+q*4,none⟩=some (.int .i64 y.kd):=hcf 0 _ rfl;have f1:wr.cell? ⟨g2,o2+q*4+1,none⟩=some (.string ⟨y.tx.toArray⟩):=hcf 1 _ rfl;have f2:wr.cell? ⟨g2,o2+q*4+2,none⟩=some (.int .i64 y.fr):=hcf 2 _ rfl;have f3:wr.cell? ⟨g2,o2+q*4+3,none⟩=some (.int .i64 y.to):=hcf 3 _ rfl;have hsa:sgnAt F q=uS y:=by unfold sgnAt;rw[hy]
               have hsy:=HK.out.2.2.2.2.2.2.1 y (aO hy);have hor:=HK.out.2.2.2.1 k q;have v1:(q:Int)<(F.length:Int):=by omega
               have v2:(0:Int)≤(q:Int):=by omega
               have HS:=aa (ac hsa (ac hsy hor));clear hcf hsa hsy hor hy;go_wp2_with fail;go_loopw [11,12] (fun owv j wx=>∃(b:Bool) (m:Nat),owv=.bool b∧j=.int .i64 m∧k+1≤m∧m≤L.length∧(b=true↔OwnT L k q m)∧wx=wr) (fun owv j _=>L.length-(intOf j).toNat)
               case atStart=>exact⟨true,k+1,rfl,by go_num,au _,by omega,⟨fun _ t y h1 h2=>by omega,fun _=>rfl⟩,rfl⟩
               case round=>
                 as_aux_lemma=>
                   obtain⟨b,m,rfl,rfl,hm1,hm2,hbo,hw⟩:=hrel;obtain rfl:=hw.symm;by_cases hml:m<L.length
                   ·obtain⟨nd,hnd⟩:∃nd,L[m]? = some nd:=⟨_,ax hml⟩;obtain⟨_,_,he,_,hc⟩:=iK jk (H4.out.2.1.keep HR.out.2 (au _)) hnd rfl
                    cases he;obtain⟨ndf,hnf⟩:∃ndf,ndf=nd.fr:=⟨_,rfl⟩;obtain⟨ndt,hnt⟩:∃ndt,ndt=nd.tt:=⟨_,rfl⟩;obtain⟨ndu,hnu⟩:∃ndu,ndu=nd.up:=⟨_,rfl⟩;have n1:wr.cell? ⟨g4,o4+m*4+1,none⟩=some (.int .i64 (ndf:Int)):=by rw[hnf];exact hc 1 _ rfl
                    have n2:wr.cell? ⟨g4,o4+m*4+2,none⟩=some (.int .i64 (ndt:Int)):=by rw[hnt];exact hc 2 _ rfl
                    have n3:wr.cell? ⟨g4,o4+m*4+3,none⟩=some (.int .i64 ndu):=by rw[hnu];exact hc 3 _ rfl
                    have hnx:=OwnT.next (p:=q) hnd (show k<m by omega);rw[←hnf,←hnt,←hnu] at hnx;have u5:(m:Int)<(L.length:Int):=by omega
                    have u6:(0:Int)≤(m:Int):=by omega
                    have HB:=aa (ac hbo hnx);clear hbo hnx hnd hc hnf hnt hnu f0 f1 f2 f3 z2;have key:∃nb:Bool,(nb=true↔OwnT L k q (m+1))∧((b=false∧nb=false)∨(b=true∧nb=true∧(ndu==(k:Int))=false)∨(b=true∧nb=true∧ndu=(k:Int)∧decide (ndf≤q)=false)∨(b=true∧nb=true∧ndu=(k:Int)∧decide (ndf≤q)=true∧decide (q<ndt)=false)∨(b=true∧nb=false∧ndu=(k:Int)∧decide (ndf≤q)=true∧decide (q<ndt)=true)):=by
                      rw[HB.out.2]
                      cases b
                      ·exact⟨false,⟨fun h=>(by cases h),fun h=>HB.out.1.2 h.1⟩,.inl ⟨rfl,rfl⟩⟩
                      have h0:=HB.out.1.1 rfl;by_cases h1:ndu=(k:Int)
                      ·by_cases h2:ndf≤q
                       ·by_cases h3:q<ndt
                        ·exact⟨false,⟨fun h=>(by cases h),fun h=>absurd ⟨h1,h2,h3⟩ h.2⟩,.inr (.inr (.inr (.inr ⟨rfl,rfl,h1,aG h2,aG h3⟩)))⟩
                        ·exact⟨true,⟨fun _=>⟨h0,fun hc=>h3 hc.2.2⟩,fun _=>rfl⟩,.inr (.inr (.inr (.inl ⟨rfl,rfl,h1,aG h2,aL h3⟩)))⟩
                       ·exact⟨true,⟨fun _=>⟨h0,fun hc=>h2 hc.2.1⟩,fun _=>rfl⟩,.inr (.inr (.inl ⟨rfl,rfl,h1,aL h2⟩))⟩
                      ·exact⟨true,⟨fun _=>⟨h0,fun hc=>h1 hc.1⟩,fun _=>rfl⟩,.inr (.inl ⟨rfl,rfl,aJ h1⟩)⟩
                    obtain⟨nb,hnb,key⟩:=key;have HV:=aa hnb;clear hnb;rcases key with ⟨rfl,rfl⟩|⟨rfl,rfl,e1⟩|⟨rfl,rfl,rfl,e2⟩|⟨rfl,rfl,rfl,e2,e3⟩|⟨rfl,rfl,rfl,e2,e3⟩
                    all_goals (
                      go_wp2_with fail;exact⟨⟨_,m+1,rfl,by go_num,by omega,by omega,HV.out,trivial⟩,by simp[intOf];omega⟩)
                   ·obtain rfl:m=L.length:=by omega
                    rw[HS.out.2.2] at hbo;have HB:=aa hbo;clear hbo z2
                    cases b
                    ·have hms:=HR.out.1.miss (fun h=>by have:=HB.out.2 h.1;cases this);have HM:=aa hms;clear hms;go_wp2_with fail;exact⟨⟨zvl,q+1,rfl,by go_num,by omega,by omega,HM.out,HR.out.2⟩,by simp[intOf];omega⟩
                    ·by_cases hsq:uS y=sg
                     ·have e1:([uS y]==[sg])=true:=by rw[hsq];simp
                      have hms:=HR.out.1.hit hq1 (HB.out.1 rfl) (HS.out.1.trans hsq);have HM:=aa hms;clear hms hsq;go_wp2_with (
                        (go_at_call 35;refine(HS.out.2.1 _).mono ?_;rintro e7 w7 ⟨rfl,hb7⟩;have H7:=aa (HR.out.2.trans (hb7.mono HR.out.2.size));clear hb7))
                      exact⟨⟨q,q+1,rfl,by go_num,by omega,by omega,HM.out,H7.out⟩,by simp[intOf];omega⟩
                     ·have e1:([uS y]==[sg])=false:=by simpa using hsq
                      have hms:=HR.out.1.miss (fun h=>hsq (HS.out.1.symm.trans h.2));have HM:=aa hms;clear hms hsq;go_wp2_with (
                        (go_at_call 35;refine(HS.out.2.1 _).mono ?_;rintro e7 w7 ⟨rfl,hb7⟩;have H7:=aa (HR.out.2.trans (hb7.mono HR.out.2.size));clear hb7))
                      exact⟨⟨zvl,q+1,rfl,by go_num,by omega,by omega,HM.out,H7.out⟩,by simp[intOf];omega⟩
              ·obtain rfl:q=xtt:=by omega
               have t3:decide ((q:Int)<(q:Int))=false:=by simp
               have hz:zvl=lastL F L k x:=by
                 have h:=HX.out.2.2.2.2.1;rw[←HE.out.2.2.2,←HE.out.2.1,←HE.out.2.2.1] at h;exact hre.one h
               have hpr:=HX.out.2.2.2.2.2.1;have hnd:=HX.out.2.2.2.1;rw[←hz] at hpr hnd;have HR:=aa hb2;by_cases hz0:0≤zvl
               ·obtain⟨y,y2,j,hy,rfl,hy2⟩:=hpr hz0;rw[aD hz0] at hnd;have hnd2:ndP F L k=[(y.fr,y2.fr)]:=by rw[hnd];unfold frAt;rw[hy,Int.toNat_natCast,hy2]
                have hj:=(ay.1 hy2).1;have hi:=(ay.1 hy).1;rw[←HE.out.2.1] at hy hi;obtain⟨g2,o2,rfl,_,hcf⟩:=iK (lay:=LJ) (fun _=>rfl) (H4.out.1.keep hb2 (au _)) hy rfl;have f1:wr.cell? ⟨g2,o2+xfr*4+2,none⟩=some (.int .i64 y.fr):=hcf 2 _ rfl;obtain⟨_,_,he,_,hcf2⟩:=iK (lay:=LJ) (fun _=>rfl) (H4.out.1.keep hb2 (au _)) hy2 rfl
                cases he;have f2:wr.cell? ⟨g2,o2+j*4+2,none⟩=some (.int .i64 y2.fr):=hcf2 2 _ rfl;have v1:(j:Int)<(F.length:Int):=by omega
                have v2:(0:Int)≤(j:Int):=by omega
                have v3:(xfr:Int)<(F.length:Int):=by omega
                have v4:(0:Int)≤(xfr:Int):=by omega
                have hpre:=HX.out.2.2.1;have hsuc:=HX.out.2.1;rw[hnd2] at hpre hsuc;clear hre hz hpr hnd hnd2 hcf hcf2 hc hy hy2 hb2 hz0;by_cases h1:a=y.fr
                ·have e1:(y.fr==a)=true:=by rw[h1];simp
                 have hv:V=y2.fr:=by
                   have:=HN.out.2.1 _ (y.fr,y2.fr) HX.out.1 (.inl h1) hpre
                   rwa [aD h1] at this
                 have HV:=aa hv;clear hv h1 hpre hsuc;go_wp2_with fail;go_ret;exact⟨by rw[HV.out];rfl,H4.out.2.2.trans (HR.out.mono H4.out.2.2.size)⟩
                ·have e1:(y.fr==a)=false:=aJ (Ne.symm h1);by_cases h2:a=y2.fr
                 ·have e2:(y2.fr==a)=true:=by rw[h2];simp
                  have hv:V=y.fr:=by
                    have:=HN.out.2.1 _ (y.fr,y2.fr) HX.out.1 (.inr h2) hpre
                    rwa [aB h1] at this
                  have HV:=aa hv;clear hv h1 h2 hpre hsuc;go_wp2_with fail;go_ret;exact⟨by rw[HV.out];rfl,H4.out.2.2.trans (HR.out.mono H4.out.2.2.size)⟩
                 ·have e2:(y2.fr==a)=false:=aJ (Ne.symm h2);have hv:NoM a ((R.take (k+1)).flatMap (ndP F L)):=by rw[hsuc];exact HX.out.1.app (NoM.one h1 h2)
                  have HV:=aa hv;clear hv h1 h2 hpre hsuc;go_wp2_with fail;exact⟨⟨k+1,by omega,by go_num,HV.out,HR.out⟩,by simp[intOf];omega⟩
               ·rw[aB hz0] at hnd;have hsuc:=HX.out.2.1;rw[hnd,bz] at hsuc;have e0:decide ((0:Int)≤zvl)=false:=by simpa using hz0
                have hv:NoM a ((R.take (k+1)).flatMap (ndP F L)):=by rw[hsuc];exact HX.out.1
                have HV:=aa hv;clear hv hre hz hpr hnd hsuc hc hb2 hz0;go_wp2_with fail;exact⟨⟨k+1,by omega,by go_num,HV.out,HR.out⟩,by simp[intOf];omega⟩
     ·have hnd:ndP F L k=[]:=by
        unfold ndP;rw[hx];simp only;rw[aD];rw[←hkd];unfold GT;rw[aB (by omega),aB (by omega),aB (by omega),aB (by omega),aB (by omega)]
      have hv:NoM a ((R.take (k+1)).flatMap (ndP F L)):=by rw[hsuc,hnd,bz];exact hnm
      have HV:=aa (ac hv hb);clear hv hnm hsuc hpre hnd hb hx hkd hc;by_cases h9:kd<9
      ·have t1:decide ((kd:Int)<9)=true:=by simp;omega
       go_wp2_with fail;exact⟨⟨k+1,by omega,by go_num,HV.out⟩,by simp[intOf];omega⟩
      ·have t1:decide ((kd:Int)<9)=false:=by simp;omega
       have t2:decide ((14:Int)<(kd:Int))=true:=by simp;omega
       go_wp2_with fail;exact⟨⟨k+1,by omega,by go_num,HV.out⟩,by simp[intOf];omega⟩
    ·obtain rfl:k=L.length:=by omega
     have hR0:R.take L.length=R:=by rw[←HK.out.2.2.2.2.1,dy]
     rw[hR0] at hnm;have HM:=aa (ac hnm hb);clear hnm hb hR0;go_wp2_with fail;go_loopw [13] (fun i wr=>∃f:Nat,f≤F.length∧i=.int .i64 f∧NoM a (R.flatMap (ndP F L)++(F.take f).flatMap KE)∧Below w4.heap.size w4 wr) (fun i _=>F.length-(intOf i).toNat)
     case atStart=>exact⟨0,bv _,rfl,by rw[List.take_zero,List.flatMap_nil,bz];exact HM.out.1,HM.out.2⟩
     case round=>
       obtain⟨f,hf,rfl,hnm,hb⟩:=hrel;by_cases hfl:f<F.length
       ·have v0:(f:Int)<(F.length:Int):=by omega
        have v00:(0:Int)≤(f:Int):=by omega
        obtain⟨x,hx⟩:∃x,F[f]? = some x:=⟨_,ax hfl⟩;have hxm:=aO hx;obtain⟨g2,o2,rfl,_,hcf⟩:=iK (lay:=LJ) (fun _=>rfl) (H4.out.1.keep hb (au _)) hx rfl;obtain⟨KD,hKD⟩:∃KD:Int,KD=x.kd:=⟨_,rfl⟩;have f0:wr.cell? ⟨g2,o2+f*4,none⟩=some (.int .i64 KD):=by rw[hKD];exact hcf 0 _ rfl
        have f1:wr.cell? ⟨g2,o2+f*4+1,none⟩=some (.string ⟨x.tx.toArray⟩):=hcf 1 _ rfl;have f2:wr.cell? ⟨g2,o2+f*4+2,none⟩=some (.int .i64 x.fr):=hcf 2 _ rfl;have f3:wr.cell? ⟨g2,o2+f*4+3,none⟩=some (.int .i64 x.to):=hcf 3 _ rfl;have hsuc:=mX KE hx;have hpre:=(List.prefix_append_right_inj (R.flatMap (ndP F L))).2 (nS KE F (f+1));rw[←HN.out.1,hsuc,←cO] at hpre;have hend:=HN.out.2.2.2 x hxm;by_cases hin:KD=6∧x.fr≤a∧a<x.to
        ·obtain⟨rfl,hi1,hi2⟩:=hin;have t1:decide (a<x.fr)=false:=by simpa using hi1
         have t2:decide (x.to≤a)=false:=by simpa using hi2
         have e6:KE x=(eC x.tx).flatMap (Ku x):=by unfold KE;rw[aD hKD.symm];rfl
         rw[e6] at hsuc hpre;have hco:=HK.out.2.2.2.2.2.2.2 x hxm;have hxf:=HK.out.1.lf x hxm;have hxl:=HK.out.1.fl.tx x hxm;have hpt:∀q∈eC x.tx,∃pf pt:Nat,q.fr=(pf:Int)∧q.to=(pt:Int)∧pf<pt∧pt≤900:=fun q hq=>by
           obtain⟨pf,pt,hp1,hp2,hp3,hp4,_⟩:=tP hq;exact⟨pf,pt,by omega,by omega,by omega,by omega⟩
         have hpl:(eC x.tx).length≤100000:=by have:=oz x.tx;omega
         generalize eC x.tx=P at hco hpt hpl hsuc hpre;have HX:=aa (ac hnm (ac hsuc (ac hpre (ac hco (ac hpt (ac hb hx))))));clear hnm hsuc hpre hco hpt hb hx hcf hKD e6 hxm hend;go_wp2_with (
           (go_at_call 52;with_reducible refine(HX.out.2.2.2.1 _).mono ?_
            rintro e w5 ⟨v5,rfl,ho5,hb5⟩;obtain⟨A5,n5,c5,rfl⟩:=dR ho5;obtain rfl:=ei ho5;have H5:=aa (ac (Rd.of_own ho5) (HX.out.2.2.2.2.2.1.trans (hb5.mono HX.out.2.2.2.2.2.1.size)));clear ho5 hb5))
         go_loopw [15] (fun i wx=>∃m:Nat,m≤P.length∧i=.int .i64 m∧NoM a ((P.take m).flatMap (Ku x))∧Below w5.heap.size w5 wx) (fun i _=>P.length-(intOf i).toNat)
         case atStart=>exact⟨0,bv _,rfl,NoM.nil a,aC _ _⟩
         case round=>
           as_aux_lemma=>
             obtain⟨m,hm,rfl,hnq,hb6⟩:=hrel;by_cases hmp:m<P.length
             ·have v1:(m:Int)<(P.length:Int):=by omega
              have v2:(0:Int)≤(m:Int):=by omega
              obtain⟨q,hq⟩:∃q,P[m]? = some q:=⟨_,ax hmp⟩;obtain⟨g5,o5,rfl,_,hc5⟩:=iK (lay:=iq) (fun _=>rfl) (H5.out.1.keep hb6 (au _)) hq rfl;obtain⟨M,hM⟩:∃M:Int,M=q.mode:=⟨_,rfl⟩;obtain⟨O,hO⟩:∃O:Bool,O=q.op:=⟨_,rfl⟩;obtain⟨pf,pt,hp1,hp2,hp3,hp4⟩:=HX.out.2.2.2.2.1 q (aO hq);have z0:wr.cell? ⟨g5,o5+m*5,none⟩=some (.int .i64 M):=by rw[hM];exact hc5 0 _ rfl
              have z1:wr.cell? ⟨g5,o5+m*5+1,none⟩=some (.int .i64 (pf:Int)):=by rw[←hp1];exact hc5 1 _ rfl
              have z2:wr.cell? ⟨g5,o5+m*5+2,none⟩=some (.int .i64 (pt:Int)):=by rw[←hp2];exact hc5 2 _ rfl
              have z4:wr.cell? ⟨g5,o5+m*5+4,none⟩=some (.bool O):=by rw[hO];exact hc5 4 _ rfl
              obtain⟨_,_,he,_,hcf⟩:=iK (lay:=LJ) (fun _=>rfl) (H4.out.1.keep (H5.out.2.trans (hb6.mono H5.out.2.size)) (au _)) HX.out.2.2.2.2.2.2 rfl
              cases he;have f2':wr.cell? ⟨g2,o2+f*4+2,none⟩=some (.int .i64 x.fr):=hcf 2 _ rfl;have hsq:=mX (Ku x) hq;have hpq:=nS (Ku x) P (m+1);rw[hsq] at hpq;have w1:IntKind.i64.wrap (x.fr+(pf:Int))=x.fr+(pf:Int):=aS _ (by omega);have w2:IntKind.i64.wrap (x.fr+(pt:Int))=x.fr+(pt:Int):=aS _ (by omega);have w3:IntKind.i64.wrap (x.fr+(pt:Int)-1)=x.fr+(pt:Int)-1:=aS _ (by omega);have key:((O=true∨(O=false∧M=12)∨(O=false∧M=13)∨(O=false∧M=14))∧Ku x q=[])∨((O=false∧(M==12)=false∧(M==13)=false∧(M==14)=false)∧Ku x q=[(x.fr+(pf:Int),x.fr+(pt:Int)-1)]):=by
                unfold Ku;rw[←hM,←hO,hp1,hp2]
                cases O
                ·by_cases h1:M=12
                 ·exact .inl ⟨.inr (.inl ⟨rfl,h1⟩),by simp[h1]⟩
                 by_cases h2:M=13
                 ·exact .inl ⟨.inr (.inr (.inl ⟨rfl,h2⟩)),by simp[h2]⟩
                 by_cases h3:M=14
                 ·exact .inl ⟨.inr (.inr (.inr ⟨rfl,h3⟩)),by simp[h3]⟩
                 exact .inr ⟨⟨rfl,aJ h1,aJ h2,aJ h3⟩,by simp[h1,h2,h3]⟩
                ·exact .inl ⟨.inl rfl,by simp⟩
              have HQ:=aa (ac hnq (ac hsq (ac hpq hb6)));clear hnq hsq hpq hb6 hq hc5 hcf hM hO hp1 hp2;rcases key with ⟨hway,hE⟩|⟨⟨rfl,e1,e2,e3⟩,hE⟩
              ·have hv:NoM a ((P.take (m+1)).flatMap (Ku x)):=by rw[HQ.out.2.1,hE,bz];exact HQ.out.1
               have HV:=aa hv;clear hv hE;rcases hway with rfl|⟨rfl,rfl⟩|⟨rfl,rfl⟩|⟨rfl,rfl⟩
               all_goals (
                 go_wp2_with fail;exact⟨⟨m+1,by omega,by go_num,HV.out,HQ.out.2.2.2⟩,by simp[intOf];omega⟩)
              ·have hpp:(R.flatMap (ndP F L)++(F.take f).flatMap KE)++(P.take m).flatMap (Ku x)++[(x.fr+(pf:Int),x.fr+(pt:Int)-1)]<+:N:=by
                 have h:=HQ.out.2.2.1;rw[hE] at h;rw[cO]
                 exact((List.prefix_append_right_inj _).2 h).trans HX.out.2.2.1
               have hhit:=HN.out.2.1 _ (x.fr+(pf:Int),x.fr+(pt:Int)-1) (HX.out.1.app HQ.out.1);have HP:=aa (ac hpp (ac hhit hE));clear hpp hhit hE;by_cases h1:x.fr+(pf:Int)=a
               ·have t3:(x.fr+(pf:Int)==a)=true:=by rw[aR];exact h1
                have hv:V=x.fr+(pt:Int)-1:=by
                  have:=HP.out.2.1 (.inl h1.symm) HP.out.1
                  rwa [aD h1.symm] at this
                have HV:=aa hv;clear hv h1;go_wp2_with fail;go_quiet (fail);go_wp2_with fail;go_quiet (fail);try go_wp2_with fail
                go_ret;exact⟨by rw[HV.out];rfl,H4.out.2.2.trans ((H5.out.2.trans (Below.mono (by first|exact(dN (dN HQ.out.2.2.2 _) _)|exact(dN HQ.out.2.2.2 _)) H5.out.2.size)).mono H4.out.2.2.size)⟩
               ·have t3:(x.fr+(pf:Int)==a)=false:=aJ h1;by_cases h2:x.fr+(pt:Int)-1=a
                ·have t4:(x.fr+(pt:Int)-1==a)=true:=by rw[aR];exact h2
                 have hv:V=x.fr+(pf:Int):=by
                   have:=HP.out.2.1 (.inr h2.symm) HP.out.1
                   rwa [aB (Ne.symm h1)] at this
                 have HV:=aa hv;clear hv h1 h2;go_wp2_with fail;go_quiet (fail);go_wp2_with fail;go_quiet (fail);go_wp2_with fail;go_quiet (fail);try go_wp2_with fail
                 go_ret;exact⟨by rw[HV.out];rfl,H4.out.2.2.trans ((H5.out.2.trans (Below.mono (by first|exact(dN (dN (dN HQ.out.2.2.2 _) _) _)|exact(dN (dN HQ.out.2.2.2 _) _)|exact(dN HQ.out.2.2.2 _)) H5.out.2.size)).mono H4.out.2.2.size)⟩
                ·have t4:(x.fr+(pt:Int)-1==a)=false:=aJ h2;have hv:NoM a ((P.take (m+1)).flatMap (Ku x)):=by rw[HQ.out.2.1,HP.out.2.2];exact HQ.out.1.app (NoM.one (Ne.symm h1) (Ne.symm h2))
                 have HV:=aa hv;clear hv h1 h2;go_wp2_with fail;go_quiet (fail);go_wp2_with fail;go_quiet (fail);go_wp2_with fail;exact⟨⟨m+1,by omega,by go_num,HV.out,by first|exact(dN (dN HQ.out.2.2.2 _) _)|exact(dN HQ.out.2.2.2 _)⟩,by simp[intOf];omega⟩
             ·obtain rfl:m=P.length:=by omega
              rw[dy] at hnq;have hv:NoM a (R.flatMap (ndP F L)++(F.take (f+1)).flatMap KE):=by rw[HX.out.2.1,←cO];exact HX.out.1.app hnq
              have HV:=aa (ac hv hb6);clear hv hnq hb6;go_wp2_with fail;exact⟨⟨f+1,by omega,by go_num,HV.out.1,H5.out.2.trans (HV.out.2.mono H5.out.2.size)⟩,by simp[intOf];omega⟩
        ·have hnil:NoM a (KE x):=fun q hq=>by
           unfold KE at hq;by_cases h6:x.kd=6
           ·rw[aD h6] at hq
            have:=qt_in hq
            constructor<;>(intro e;apply hin;rw[hKD];refine⟨h6,?_,?_⟩<;>omega)
           ·rw[aB h6] at hq;cases hq
         have hv:NoM a (R.flatMap (ndP F L)++(F.take (f+1)).flatMap KE):=by rw[hsuc,←cO];exact hnm.app hnil
         have HV:=aa (ac hv hb);clear hv hnil hnm hsuc hpre hb hx hcf hKD hxm hend;have key:(KD != 6)=true∨(KD=6∧decide (a<x.fr)=true)∨(KD=6∧decide (a<x.fr)=false∧decide (x.to≤a)=true):=by
           by_cases h6:KD=6
           ·by_cases h7:a<x.fr
            ·exact .inr (.inl ⟨h6,aG h7⟩)
            ·exact .inr (.inr ⟨h6,aL h7,aG (by by_cases h8:x.to≤a;exact h8;exact absurd ⟨h6,by omega,by omega⟩ hin)⟩)
           ·exact .inl (by simpa using h6)
         clear hin;rcases key with e1|⟨rfl,e1⟩|⟨rfl,e1,e2⟩
         all_goals (
           go_wp2_with fail;exact⟨⟨f+1,by omega,by go_num,HV.out⟩,by simp[intOf];omega⟩)
       ·obtain rfl:f=F.length:=by omega
        rw[dy,←HN.out.1] at hnm;have HV:=aa (ac (HN.out.2.2.1 hnm) hb);clear hnm hb;go_wp2_with fail;go_ret;exact⟨by rw[HV.out.1];rfl,H4.out.2.2.trans (HV.out.2.mono H4.out.2.2.size)⟩
end Go.Proofs.YtcagfamdoaoimaaGreatDoor
