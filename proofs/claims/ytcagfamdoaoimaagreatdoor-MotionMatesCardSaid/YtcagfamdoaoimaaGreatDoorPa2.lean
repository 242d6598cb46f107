/- The program's walker sees the stack behind a byte (parts.walker.see): what was shut, what stays, what opened. -/
import Derived.Test.YtcagfamdoaoimaaGreatDoorPa0
import Derived.Test.YtcagfamdoaoimaaGreatDoorCls
import Derived.Deep.DeepCutAuto
import Derived.Deep.CutBlock
import Derived.IntWalk
import Derived.StillTailTactics
import Derived.BigQuiet
set_option linter.unusedVariables false
set_option linter.unusedSimpArgs false
set_option maxRecDepth 100000
set_option maxHeartbeats 8000000
namespace Go.Proofs.YtcagfamdoaoimaaGreatDoor
open Go.RowKit
variable {h:List Nat} {l' L:List fh} {T:List TypeId} {fc:List Value} {B b g n c B' i:Nat} {q:fh} {α:Type} {v1 v2 vf:Value} {w w':World} (l:List UInt8) (cs:List fh) (F:eU) (k:Nat)
theorem MH (B b gf C N:Nat) (v1 v2:Value) (l:List fh) (h:List Nat) (st:eU) (at_:Nat) (w:World) (s:SS w B b v1 v2 (.slice (some ⟨gf,0,none⟩) (N+1) (C+1)) l h (N+1) (fU st)) (hst:st.length=N+1) (hat:at_≤100000) (hl:l.length≤100000) (hs:N≤100000) (hh:h.length≤100000)
    (hv:∀x∈h,x<l.length) :
    Calls Tryz.prog 146 #[.pointer (some ⟨b,0,none⟩),.slice (some ⟨gf,0,none⟩) (N+1) (C+1),.int .i64 (at_:Int)] w fun e w'=>e=.returned (.tuple #[]) ∧
      (∃v1' v2',SS w' B b v1' v2' (.slice (some ⟨gf,0,none⟩) (N+1) (C+1)) (An (oM st.reverse.tail) at_ l h).1 (An (oM st.reverse.tail) at_ l h).2 (N+1) (fU st))∧BW B w w':=by
  have hcap:=gM s.of;have hc1:N≤C:=by omega
  have hc3:C+1≤maxLen:=by omega
  unfold maxLen at hc3;obtain⟨A2,n2,c2,rfl⟩:=dR s.oh;obtain rfl:=ei s.oh;have y1:w.cell? ⟨b,1,none⟩=some (.slice A2 h.length c2):=by rw[s.hd.cell];rfl
  obtain⟨i0,hi0,hz0,hz1,hz2⟩:=cD Tryz.infoI;obtain⟨ip,hip,hp0,hp1,hp2⟩:=cD Tryz.infoPart;have S0:=aa s;have HST:=aa hst;clear s hcap hst;go_enter Tryz.func146,Tryz.ntmps146;go_upto_region 0 with fail
  go_cut [1] (fun s1 wx=>w=wx∧∃A c,s1=.slice A N c∧N≤c∧c≤C∧(1≤N→A=some ⟨gf,2,none⟩))
  case first=>
    go_wp2_with fail;all_goals (
      go_meet;refine⟨rfl,_,_,rfl,by omega,by omega,?_⟩
      first
        | exact fun _=>rfl
        | (intro h;exfalso;omega))
  case rest=>
    obtain⟨rfl,A,cA,rfl,hcA,hcA2,hA⟩:=hcut;go_upto_block 0 with fail
    go_cut [] (fun wx=>∃l1 h1 v1' v2',SS wx B b v1' v2' (.slice (some ⟨gf,0,none⟩) (N+1) (C+1)) l1 h1 (N+1) (fU st)∧l1.length=l.length∧h1.length≤h.length∧(∀x∈h1,x<l.length)∧jg (oM st.reverse.tail) at_ h.length l h=(l1,h1)∧BW B w wx)
    case first=>
      go_wp2_with fail
      go_loopw [6] (fun s6 wr=>∃(m:Nat) (l1:List fh) (h1:List Nat) (v1' v2':Value),s6=.int .i64 m∧SS wr B b v1' v2' (.slice (some ⟨gf,0,none⟩) (N+1) (C+1)) l1 h1 (N+1) (fU st)∧l1.length=l.length∧h1.length=m∧m≤h.length∧(∀x∈h1,x<l.length) ∧
        jg (oM st.reverse.tail) at_ h.length l h=jg (oM st.reverse.tail) at_ m l1 h1∧BW B w wr) (fun s6 _=>(intOf s6).toNat)
      case atStart=>exact⟨h.length,l,h,_,_,rfl,S0.out,rfl,rfl,au _,hv,rfl,BW.refl _ _⟩
      case round=>
        obtain⟨m,l1,h1,v1',v2',rfl,s1,hl1,hh1,hmh,hv1,he,hb⟩:=hrel
        cases m with
        | zero=>
          have HR:=aa (ac s1 (ac hl1 (ac hh1 (ac hv1 (ac he hb)))));clear s1 hl1 hh1 hv1 he hb;go_wp2_with fail;go_meet;obtain⟨s1,hl1,hh1,hv1,he,hb⟩:=HR.out;exact⟨l1,h1,_,v2',s1,hl1,by omega,hv1,by rw[he];rfl,hb⟩
        | succ m=>
          have hoh:=s1.oh;rw[hh1] at hoh;obtain⟨g2,cp2,rfl⟩:=ir hoh;obtain⟨k,hk⟩:∃k,h1[m]? = some k:=⟨_,ax (by omega)⟩;have hkl:k<l.length:=hv1 k (aO hk);obtain⟨q,hq⟩:∃q,l1[k]? = some q:=⟨_,ax (by omega)⟩;obtain⟨L',hL'⟩:∃L',l.length=L'+1:=⟨l.length-1,by omega⟩;have hol:=s1.ol;rw[hl1,hL'] at hol;obtain⟨g1,cp1,rfl⟩:=ir hol;have y0:wr.cell? ⟨b,0,none⟩=some (.slice (some ⟨g1,0,none⟩) (L'+1) cp1):=by rw[s1.hd.cell];rfl
          have y1':wr.cell? ⟨b,1,none⟩=some (.slice (some ⟨g2,0,none⟩) (m+1) cp2):=by rw[s1.hd.cell];rfl
          have y2:wr.cell? ⟨g2,m,none⟩=some (.int .i64 (k:Int)):=dW hoh _ _ (pC hk);have y3:wr.cell? ⟨g1,k*5+1,none⟩=some (.int .i64 q.fr):=dW hol _ _ (eW l1 k q hq 1 _ rfl);have y5:wr.cell? ⟨g1,k*5+2,none⟩=some (.int .i64 (tu q)):=dW hol _ _ (eW l1 k q hq 2 _ rfl);have y6:wr.cell? ⟨g1,k*5+4,none⟩=some (.bool q.op):=dW hol _ _ (eW l1 k q hq 4 _ rfl);have f5:=gC hol (k*5+2);have f6:=gC hol (k*5+4);have k0:IntKind.i64.wrap ((at_:Int)+1)=(at_:Int)+1:=aS _ (by omega);have k1:(k:Int)<(L':Int)+1:=by omega
          have k2:(0:Int)≤(k:Int):=by omega
          have HR:=aa (ac s1 (ac hl1 (ac hh1 (ac hv1 (ac he (ac hb (ac hk (ac hq hL'))))))));clear s1 hl1 hh1 hv1 he hb hk hq hoh hol hv;by_cases hmN:m+1≤N
          ·obtain⟨⟨mm,p⟩,hp⟩:∃x,(oM st.reverse.tail)[m]? = some x:=⟨_,ax (by have:=HST.out;simp[oM];omega)⟩;obtain⟨_,hc⟩:=sr st m mm p hp;have y4:wr.cell? ⟨gf,2+m*2+1,none⟩=some (.int .i64 p):=by
             rw[show 2+m*2+1=(m+1)*2+1 by omega];exact dW HR.out.1.of _ _ hc
           obtain rfl:=hA (by omega);have k3:decide ((m:Int)+1≤(N:Int))=true:=by simp;omega
           have k4:(m:Int)<(N:Int):=by omega
           clear hA hc;by_cases heq:p=q.fr
           ·have HE:=aa (ac hp heq);have k5:(p==q.fr)=true:=by simpa using heq
            clear hp heq k0;go_wp2_with fail;go_quiet (fail);go_wp2_with fail;go_meet;obtain⟨s1,hl1,hh1,hv1,he,hb,hk,hq,hL'⟩:=HR.out;refine⟨l1,h1,_,_,s1.drewN _,hl1,by omega,hv1,?_,hb.drewN _⟩;rw[he];unfold jg;rw[aD];refine⟨by have:=(ay.1 HE.out.1).1;omega,?_⟩;rw[kY hk,kY hq,kY HE.out.1];exact HE.out.2
           ·have HE:=aa (ac hp heq);have k5:(p==q.fr)=false:=by simpa using heq
            clear hp heq;go_wp2_with fail;go_quiet (fail);go_upto_region 6 with fail
            go_cut [] (fun wx=>SS wx B b (.slice (some ⟨g1,0,none⟩) (L'+1) cp1) (.slice (some ⟨g2,0,none⟩) (m+1) cp2) (.slice (some ⟨gf,0,none⟩) (N+1) (C+1)) (l1.set k (pI at_ q)) h1 (N+1) (fU st)∧BW B wr wx)
            case first=>
              go_wp2_with fail;go_region;all_goals (
                go_wp2_with fail;go_meet;have hs2:=xU (HR.out.1.drewN (nq+1)) HR.out.2.2.2.2.2.2.2.1 (at_:Int);have hb2:=((BW.refl B wr).drewN (nq+1)).elt2 (HR.out.1.drewN (nq+1)) (k*5+2) (k*5+4) (.int .i64 ((at_:Int)+1)) (.bool false);exact⟨hs2,hb2⟩)
            case rest=>
              obtain⟨s2,hb2⟩:=hcut;have z0:wc.cell? ⟨b,1,none⟩=some (.slice (some ⟨g2,0,none⟩) (m+1) cp2):=by rw[s2.hd.cell];rfl
              have zf:=s2.hd.frozen 1;have hle:=gM s2.oh;have hm1:m+1≤cp2:=by have:=HR.out.2.2.1;omega
              have hcp2:cp2≤maxLen:=hle.2.2.1;unfold maxLen at hcp2;have H2:=aa (ac s2 hb2);clear s2 hb2 hle k0;go_wp2_with fail;obtain⟨s1,hl1,hh1,hv1,he,hb,hk,hq,hL'⟩:=HR.out;obtain⟨s2,hb2⟩:=H2.out;refine⟨⟨m,l1.set k (pI at_ q),h1.take m,_,_,rfl,s2.pop hh1,by simpa using hl1,by rw[cm];omega,by omega,fun x hx=>hv1 x (cN hx),?_,(hb.trans hb2).hdB s2.hd s2.le _ _⟩,by simp[intOf]⟩;rw[he];exact vk hk hq (fun h=>HE.out.2 (by have h2:=h.2;rwa [kY HE.out.1] at h2))
          ·have k3:decide ((m:Int)+1≤(N:Int))=false:=by simp;omega
           clear hA;go_wp2_with fail;go_quiet (fail);go_upto_region 6 with fail
           go_cut [] (fun wx=>SS wx B b (.slice (some ⟨g1,0,none⟩) (L'+1) cp1) (.slice (some ⟨g2,0,none⟩) (m+1) cp2) (.slice (some ⟨gf,0,none⟩) (N+1) (C+1)) (l1.set k (pI at_ q)) h1 (N+1) (fU st)∧BW B wr wx)
           case first=>
             go_wp2_with fail;go_region;all_goals (
               go_wp2_with fail;go_meet;have hs2:=xU (HR.out.1.drewN (nq+1)) HR.out.2.2.2.2.2.2.2.1 (at_:Int);have hb2:=((BW.refl B wr).drewN (nq+1)).elt2 (HR.out.1.drewN (nq+1)) (k*5+2) (k*5+4) (.int .i64 ((at_:Int)+1)) (.bool false);exact⟨hs2,hb2⟩)
           case rest=>
             obtain⟨s2,hb2⟩:=hcut;have z0:wc.cell? ⟨b,1,none⟩=some (.slice (some ⟨g2,0,none⟩) (m+1) cp2):=by rw[s2.hd.cell];rfl
             have zf:=s2.hd.frozen 1;have hle:=gM s2.oh;have hm1:m+1≤cp2:=by have:=HR.out.2.2.1;omega
             have hcp2:cp2≤maxLen:=hle.2.2.1;unfold maxLen at hcp2;have H2:=aa (ac s2 hb2);clear s2 hb2 hle k0;go_wp2_with fail;obtain⟨s1,hl1,hh1,hv1,he,hb,hk,hq,hL'⟩:=HR.out;obtain⟨s2,hb2⟩:=H2.out;refine⟨⟨m,l1.set k (pI at_ q),h1.take m,_,_,rfl,s2.pop hh1,by simpa using hl1,by rw[cm];omega,by omega,fun x hx=>hv1 x (cN hx),?_,(hb.trans hb2).hdB s2.hd s2.le _ _⟩,by simp[intOf]⟩;rw[he];exact vk hk hq (fun h=>hmN (by have h2:=h.1;have h3:=HST.out;simp[oM] at h2;omega))
    case rest=>
      obtain⟨l1,h1,v1',v2',s1,hl1,hh1,hv1,he,hb⟩:=hcut;have H1:=aa (ac s1 (ac hl1 (ac hh1 (ac hv1 (ac he hb)))));have hF:(oM st.reverse.tail).length=N:=by have:=HST.out;simp[oM];omega
      have HF:=aa hF;clear s1 hl1 hh1 hv1 he hb hv hF y1;go_wp2_with fail
      go_loopw [79] (fun s79 wr=>∃(i:Nat) (l2:List fh) (h2:List Nat) (v1' v2':Value),s79=.int .i64 i∧i≤N∧SS wr B b v1' v2' (.slice (some ⟨gf,0,none⟩) (N+1) (C+1)) l2 h2 (N+1) (fU st)∧(∀x∈h2,x<l2.length)∧l2.length≤l.length+i∧h2.length≤h.length+i∧i≤h2.length ∧
        fL ((oM st.reverse.tail).drop i) i l2 h2=An (oM st.reverse.tail) at_ l h∧BW B w wr) (fun s79 _=>N-(intOf s79).toNat)
      case atStart=>
        obtain⟨s1,hl1,hh1,hv1,he,hb⟩:=H1.out;exact⟨0,l1,h1,_,_,rfl,by omega,s1,by rw[hl1];exact hv1,by omega,by omega,by omega,by unfold An;rw[he];rfl,hb⟩
      case round=>
        obtain⟨i,l2,h2,v1'',v2'',rfl,hi,s2,hv2,hl2,hh2,hih0,he2,hb2⟩:=hrel;by_cases hiN:i<N
        ·obtain⟨⟨mm,p⟩,hp⟩:∃x,(oM st.reverse.tail)[i]? = some x:=⟨_,ax (by have:=HF.out;omega)⟩;obtain⟨e1,e2⟩:=sr st i mm p hp;have y3:wr.cell? ⟨gf,2+i*2,none⟩=some (.int .i64 mm):=by
           rw[show 2+i*2=(i+1)*2 by omega];exact dW s2.of _ _ e1
         have y4:wr.cell? ⟨gf,2+i*2+1,none⟩=some (.int .i64 p):=by
           rw[show 2+i*2+1=(i+1)*2+1 by omega];exact dW s2.of _ _ e2
         obtain rfl:=hA (by omega);have k4:(i:Int)<(N:Int):=by omega
         have k5:(0:Int)≤(i:Int):=by omega
         obtain⟨A3,n3,c3,rfl⟩:=dR s2.oh;obtain rfl:=ei s2.oh;obtain⟨A4,n4,c4,rfl⟩:=dR s2.ol;obtain rfl:=ei s2.ol;have y1:wr.cell? ⟨b,1,none⟩=some (.slice A3 h2.length c3):=by rw[s2.hd.cell];rfl
         have y0:wr.cell? ⟨b,0,none⟩=some (.slice A4 l2.length c4):=by rw[s2.hd.cell];rfl
         have H2:=aa (ac s2 (ac hv2 (ac he2 (ac hb2 hp))));clear s2 hv2 he2 hb2 hp e1 e2 hA y1 y0;go_upto_region 10 with fail
         go_cut [8,9] (fun s8 s9 wx=>s8=.int .i64 (i:Int)∧∃F0,s9=.pointer (some ⟨F0,0,none⟩)∧Bk wx F0 170 #[.int .i64 mm,.int .i64 p]∧SS wx B b (.slice A4 l2.length c4) (.slice A3 h2.length c3) (.slice (some ⟨gf,0,none⟩) (N+1) (C+1)) l2 h2 (N+1) (fU st)∧BW B wr wx∧B≤F0∧F0≠b)
         case first=>
           go_wp2_with fail;go_meet;have hsz:=H2.out.1.hd.lt;exact⟨rfl,_,rfl,Bk.new _ _ _,H2.out.1.alloc _,(BW.refl _ _).alloc (by have:=H2.out.1.le;omega) _,by have:=H2.out.1.le;omega,by omega⟩
         case rest=>
           obtain⟨rfl,F0,rfl,hF0,s3,hb3,hBF,hFb⟩:=hcut;have y5:wc.cell? ⟨F0,0,none⟩=some (.int .i64 mm):=by rw[hF0.cell];rfl
           have y6:wc.cell? ⟨F0,1,none⟩=some (.int .i64 p):=by rw[hF0.cell];rfl
           have y1:wc.cell? ⟨b,1,none⟩=some (.slice A3 h2.length c3):=by rw[s3.hd.cell];rfl
           have y0:wc.cell? ⟨b,0,none⟩=some (.slice A4 l2.length c4):=by rw[s3.hd.cell];rfl
           by_cases hih:i<h2.length
           ·have k3:decide ((i:Int)<(h2.length:Int))=true:=by simp;omega
            obtain⟨u,hu⟩:∃u,h2[i]? = some u:=⟨_,ax hih⟩;have hul:=H2.out.2.1 u (aO hu);obtain⟨q,hq⟩:∃q,l2[u]? = some q:=⟨_,ax hul⟩;obtain⟨g3,rfl⟩:=jb s3.oh (by omega);obtain⟨g4,rfl⟩:=jb s3.ol (by omega);have y7:=dW s3.oh _ _ (pC hu);have y8:wc.cell? ⟨g4,u*5,none⟩=some (.int .i64 q.mode):=dW s3.ol _ _ (eW l2 u q hq 0 _ rfl);have f8:=gC s3.ol (u*5);have k6:(u:Int)<(l2.length:Int):=by omega
            have k7:(0:Int)≤(u:Int):=by omega
            have k8:(i:Int)<(h2.length:Int):=by omega
            have H3:=aa (ac s3 (ac hb3 (ac hu hq)));clear s3 hb3 hu hq hF0;go_upto_region 12 with fail
            go_cut [] (fun wx=>SS wx B b (.slice (some ⟨g4,0,none⟩) l2.length c4) (.slice (some ⟨g3,0,none⟩) h2.length c3) (.slice (some ⟨gf,0,none⟩) (N+1) (C+1)) (l2.set u (pU q (kj mm))) h2 (N+1) (fU st)∧BW B wc wx)
            case first=>
              go_wp2_with fail;refine wp_region_still_tail 16 (by kernel_rfl) (by kernel_rfl) ?_;simp only[cF,List.take_zero,List.drop_succ_cons,dt]
              repeat still_step
              still_call (Calls.mono (zA mm _) (fun e w'' hh=>⟨hh.1,hh.2.symm⟩))
              repeat still_step
              try refine wpStill_nil ?_
              change wpList _ _ _ _ _ wc.drew;go_wp2_with fail;go_meet;exact⟨(EF H3.out.1 H3.out.2.2.2 (kj mm)).drew,((BW.refl _ _).elt H3.out.1 _ _).drew⟩
            case rest=>
              obtain⟨s4,hb4⟩:=hcut;have H4:=aa (ac s4 hb4);clear s4 hb4;go_wp2_with fail;obtain⟨s2,hv2,he2,hb2,hp⟩:=H2.out;obtain⟨s3,hb3,hu,hq⟩:=H3.out;obtain⟨s4,hb4⟩:=H4.out;refine⟨⟨i+1,l2.set u (pU q (kj mm)),h2,_,_,by go_num,by omega,by simpa using s4,by simpa using hv2,by rw[List.length_set];omega,by omega,by omega,?_,(hb2.trans hb3).trans hb4⟩,by simp[intOf];omega⟩;rw[←he2]
              exact(wA hp hu hq hih).symm
           ·have k3:decide ((i:Int)<(h2.length:Int))=false:=by simp;omega
            obtain⟨up,hup⟩:∃up:Int,(if 0<i then ((h2.getD (i-1) 0:Nat):Int) else -1)=up:=⟨_,rfl⟩;have H3:=aa (ac s3 (ac hb3 (ac hF0 hup)));go_upto_if 108 with fail
            go_cut [10] (fun s10 wx=>wc=wx∧s10=.int .i64 up)
            case first=>
              by_cases h0:0<i
              ·rw[aD h0] at hup;obtain⟨u,hu⟩:∃u,h2[i-1]? = some u:=⟨_,ax (by omega)⟩;rw[kY hu] at hup;obtain⟨g3,rfl⟩:=jb s3.oh (by omega);have y7:=dW s3.oh _ _ (pC hu);have k6:(1:Int)≤(i:Int):=by omega
               have k7:(0:Int)≤(i:Int)-1:=by omega
               have k8:(i:Int)-1<(h2.length:Int):=by omega
               have k9:((i:Int)-1).toNat=i-1:=by omega
               subst hup;clear s3 hb3 hF0 hu;go_wp2_with fail;go_meet;exact⟨rfl,rfl⟩
              ·rw[aB h0] at hup;have k6:¬(0:Int)<(i:Int):=by omega
               subst hup;clear s3 hb3 hF0;go_wp2_with fail;go_meet;exact⟨rfl,rfl⟩
            case rest=>
              obtain⟨rfl,rfl⟩:=hcut;have hbs:b<wc.heap.size:=s3.hd.lt;have hbn:¬b=wc.heap.size:=by omega
              clear s3 hb3 hF0 hup;go_upto_region 16 with fail
              go_cut [] (fun wx=>∃v,SS wx B b (.slice A4 l2.length c4) v (.slice (some ⟨gf,0,none⟩) (N+1) (C+1)) l2 (h2++[l2.length]) (N+1) (fU st)∧Bk wx F0 170 #[.int .i64 mm,.int .i64 p]∧BW B wc wx)
              case first=>
                go_wp2_with fail
                go_region_law (first
                  | (refine dV rfl (.tmp 121) (.tmp 127) 35 rfl B 3 i0 _ 1 8 Tryz.underlying35 hi0 hz0 hz1 hz2 rfl (by decide) (.slice A3 h2.length c3) h2.length (jc h2) (by simp[Act.eval]) (H3.out.1.oh.alloc _) (.slice (some ⟨wc.heap.size,0,none⟩) 1 1) 1 (wc.heap.size+1) [.int .i64 (l2.length:Int)] (by simp[Act.eval]) (Rd.drew (fQ wc [.int .i64 (l2.length:Int)] 3 1 1 rfl (by omega))) (by intro u hu;simp at hu;subst hu;rfl) (by unfold maxLen;omega) (by omega) (by have:=H3.out.1.le;have:=H3.out.1.hd.lt;simp;omega) ?_;intro v5 w5 hown5 hg5 hv5;have hk5:=EE hown5;have hs5:=H3.out.1.appH hg5 hk5;have hF5:Bk w5 F0 170 #[.int .i64 mm,.int .i64 p]:=(H3.out.2.2.1.alloc _).drew.grown hg5 (Ne.symm (eQ H3.out.1.oh H3.out.2.2.1 (by decide)));have hB5:=tC H3.out.1 hg5;have z1:w5.cell? ⟨b,1,none⟩=some (.slice A3 h2.length c3):=by rw[hs5.1.hd.cell];rfl
                     have zf:=hs5.1.hd.frozen 1;obtain⟨A5,n5,c5,rfl⟩:=dR hk5;have H5:=aa (ac hs5 (ac hF5 hB5));clear hown5 hg5 hv5 hk5 hs5 hF5 hB5))
                all_goals (
                  go_wp2_with fail;go_meet;exact⟨_,H5.out.1.2,by simpa using H5.out.2.1.far (by simpa using hFb) _,H5.out.2.2.hdB H5.out.1.1.hd H3.out.1.le _ _⟩)
              case rest=>
                obtain⟨vh,s4,hF4,hb4⟩:=hcut;obtain⟨A6,n6,c6,rfl⟩:=dR s4.oh;have y5:wc.cell? ⟨F0,0,none⟩=some (.int .i64 mm):=by rw[hF4.cell];rfl
                have y6:wc.cell? ⟨F0,1,none⟩=some (.int .i64 p):=by rw[hF4.cell];rfl
                have y0:wc.cell? ⟨b,0,none⟩=some (.slice A4 l2.length c4):=by rw[s4.hd.cell];rfl
                have hbs:b<wc.heap.size:=s4.hd.lt;have hbn:¬b=wc.heap.size:=by omega
                have hFn:¬F0=wc.heap.size:=by have:=hF4.lt;omega
                have H4:=aa (ac s4 (ac hb4 hF4));clear s4 hb4 hF4;go_upto_region 17 with fail
                go_wp2_with fail;have HK:=aa (ac hl2 (ac hh2 (ac hih0 hiN)));have hbd:l2.length≤300000:=by omega
                clear hl2 hh2 hih0 k4 k5 y3 y4 k3 hcA hcA2 hc1 hc3 hz0 hz1 hz2 hi0
                go_region_law (first
                    | (refine dV rfl (.tmp 135) (.tmp 143) 76 rfl B 79 ip _ 5 40 Tryz.underlying76 hip hp0 hp1 hp2 rfl (by decide) (.slice A4 l2.length c4) l2.length (fw l2) (by simp[Act.eval]) (H4.out.1.ol.alloc _) (.slice (some ⟨wc.heap.size,0,none⟩) 1 1) 1 (wc.heap.size+1) (iq ⟨kj mm,p,0,up,true⟩) (by simp[Act.eval]) (Rd.drew (fQ wc (iq ⟨kj mm,p,0,up,true⟩) 79 5 1 rfl (by omega))) (yF _) (by unfold maxLen;omega) (by omega) (by have:=H4.out.1.le;simp;omega) ?_;intro v5 w5 hown5 hg5 hv5;have hk5:=BU hown5;have hs5:=H4.out.1.appL hg5 hk5;have hB5:=uT H4.out.1 hg5;have z1:w5.cell? ⟨b,0,none⟩=some (.slice A4 l2.length c4):=by rw[hs5.1.hd.cell];rfl
                       have zf:=hs5.1.hd.frozen 0;have hF5:Bk w5 F0 170 #[.int .i64 mm,.int .i64 p]:=(H4.out.2.2.alloc _).drew.grown hg5 (Ne.symm (eQ H4.out.1.ol H4.out.2.2 (by decide)));have zF0:w5.cell? ⟨F0,0,none⟩=some (.int .i64 mm):=by rw[hF5.cell];rfl
                       have zF1:w5.cell? ⟨F0,1,none⟩=some (.int .i64 p):=by rw[hF5.cell];rfl
                       obtain⟨A5,n5,c5,rfl⟩:=dR hk5;have H5:=aa (ac hs5 hB5);clear hown5 hg5 hv5 hk5 hs5 hB5 hF5)
                    | (go_simp;go_at_call 184;refine(zA mm _).mono ?_;rintro e w' ⟨rfl,rfl⟩))
                all_goals (
                    go_wp2_with fail;obtain⟨s2,hv2,he2,hb2,hp⟩:=H2.out;obtain⟨s3,hb3,hF0,hup⟩:=H3.out;obtain⟨s4,hb4,_⟩:=H4.out;obtain⟨hs5,hb5⟩:=H5.out;obtain⟨hl2,hh2,hih0,hiN⟩:=HK.out;refine⟨⟨i+1,l2++[⟨kj mm,p,0,up,true⟩],h2++[l2.length],_,_,by go_num,by omega,hs5.2,CW hv2,by simp;omega,by simp;omega,by simp;omega,?_,(((hb2.trans hb3).trans hb4).trans hb5).hdB hs5.1.hd s4.le _ _⟩,by simp[intOf];omega⟩;rw[←he2]
                    exact(xV hp hih hup).symm)
        ·have hiN2:i=N:=by omega
         have H2:=aa (ac s2 (ac he2 hb2));clear s2 he2 hb2 hv2;go_wp2_with fail;go_end0;obtain⟨s2,he2,hb2⟩:=H2.out;rw[List.drop_eq_nil_of_le (by have:=HF.out;omega)] at he2;refine⟨rfl,⟨v1'',v2'',?_⟩,hb2⟩;rw[←he2];exact s2
structure SW (w:World) (B b:Nat) (v1 v2:Value) (l:List fh) (h:List Nat):Prop where
  le:B≤b
  hd:Bk w b 146 #[v1,v2]
  ol:w.ownsRow B 79 5 v1 l.length (fw l)
  oh:w.ownsRow B 3 1 v2 h.length (jc h)
theorem SW.kt {l:List fh} (s:SW w B b v1 v2 l h) (hk:KT T w w') (h1:146∉T) (h2:79∉T) (h3:3∉T):SW w' B b v1 v2 l h:=
  ⟨s.le,s.hd.kt hk h1,AP s.ol hk h2,AP s.oh hk h3⟩
theorem SW.below {l:List fh} (s:SW w B b v1 v2 l h) (hb:Below w.heap.size w w'):SW w' B b v1 v2 l h:=
  ⟨s.le,s.hd.below hb s.hd.lt,dS s.ol hb,dS s.oh hb⟩
theorem SW.setL {l:List fh} (s:SW w B b (.slice (some ⟨g,0,none⟩) n c) v2 l h) (j:Nat) (u:Value) (he:(fw l).set j u=fw l') (hl:l'.length=l.length) :
    SW (w.setCell ⟨g,j,none⟩ u) B b (.slice (some ⟨g,0,none⟩) n c) v2 l' h:=by
  obtain⟨s1,s2,s3,s4⟩:=s;have hn:=(gM s3).1;subst hn;have hgb:=eQ s3 s2 (by decide);refine⟨s1,s2.far (by intro e;subst e;exact hgb rfl) u,?_,ff s4 (rq s3 s4 (by decide)) u⟩;rw[hl,←he];exact mP s3 j u
theorem SW.drew {l:List fh} (s:SW w B b v1 v2 l h):SW w.drew B b v1 v2 l h:=⟨s.le,s.hd,s.ol,s.oh⟩
theorem SW.gle {l:List fh} (s:SW w B b (.slice (some ⟨g,0,none⟩) n c) v2 l h):B≤g:=by
  have:=s.ol
  have hn:=ei this;subst hn
  exact(gM this).2.2.2.1
theorem Na {l:List fh} (s:SW w B b v1 v2 l h) (hf:w.ownsRow B' 170 2 vf n fc) (hB:B≤B'):SS w B b v1 v2 vf l h n fc:=
  ⟨s.le,s.hd,s.ol,s.oh,fK hf hB⟩
theorem Gu:∀x∈kM l k,x<(eJ l k).length:=by
  intro x hx;obtain⟨p,hp,rfl⟩:=bX.1 hx;exact Bm ((mC l k).sub p hp)
theorem Du:(kM l k).length≤k:=by
  have h1:(kM l k).length=(FT l k).length:=by simp[kM,eV]
  have h2:(FT l k).length=(XT l k).length:=by simp[FT]
  have h3:=Ic l k;have h4:=ji l k;omega
theorem F1 (k:Int) (l:List fh):(mQ F k l).length≤1:=by unfold mQ;split;simp;split<;>simp
theorem oP (l:List UInt8):∀k,(eJ l k).length≤k
  | 0=>by simp[eJ]
  | k+1=>by
    have:=oP l k
    have:=F1 (FT l (k+1)) k (eJ l k)
    simp only[eJ,aH,cH];omega
theorem SW.dol {k:Nat} {l:List fh} (s:SW w B b (.slice (some ⟨g,0,none⟩) n c) v2 l h) (hq:l[k]? = some q) (t:Int) :
    SW ((w.setCell ⟨g,k*5+2,none⟩ (.int .i64 t)).setCell ⟨g,k*5+4,none⟩ (.bool false)) B b (.slice (some ⟨g,0,none⟩) n c) v2 (l.set k (J2 q t)) h:=by
  have hk:=(ay.1 hq).1;have s1:=s.setL (k*5+2) (.int .i64 t) (jG l k q (setTo q t) 2 (.int .i64 t) hq (by omega) rfl) (by simp);have hq1:(l.set k (setTo q t))[k]? = some (setTo q t):=by rw[List.getElem?_set_self hk]
  have s2:=s1.setL (k*5+4) (.bool false) (jG (l.set k (setTo q t)) k (setTo q t) (J2 q t) 4 (.bool false) hq1 (by omega) rfl) (by simp)
  rwa [List.set_set] at s2
theorem EC {l:List α} {x:α} (h:l[i]? = some x):l.set i x=l:=by
  apply List.ext_getElem?;intro j;by_cases e:i=j
  ·subst e;rw[List.getElem?_set_self (ay.1 h).1,h]
  ·rw[List.getElem?_set_ne e]
def lu (l:List UInt8) (cs:List fh) (k:Nat):List fh:=(cs.take k).map (nU l)++cs.drop k
theorem DC:(lu l cs k).length=cs.length:=by simp[lu];omega
theorem GD (q:fh) (h:cs[k]? = some q):(lu l cs k)[k]? = some q:=by
  have hk:=(ay.1 h).1;unfold lu;rw[aX (by simp;omega),cy];simp only[cH,cm,de (bq hk),Nat.sub_self,Nat.add_zero];exact h
theorem uz (q:fh) (h:cs[k]? = some q):(lu l cs k).set k (nU l q)=lu l cs (k+1):=by
  obtain⟨hk,hq⟩:=ay.1 h;unfold lu;rw[List.set_append_right _ _ (by simp;omega)];simp only[cH,cm,de (bq hk),Nat.sub_self];rw[cV hk,bM hk,cw,hq];simp
theorem Nc (w:World) (hl:l.length≤900) :
    Calls Tryz.prog 115 #[.string ⟨l.toArray⟩] w fun e w'=>∃v,e=.returned v∧w'.ownsRow w.heap.size 79 5 v (eC l).length (fw (eC l))∧Below w.heap.size w w':=by
  go_enter Tryz.func115,Tryz.ntmps115
  go_wp2_with (go_at_call 144;refine(FY _).mono ?_
               rintro e w1 ⟨bm,rfl,hm1,hb1⟩)
  have s1:SW w1 w.heap.size w.heap.size (.slice none 0 0) (.slice none 0 0) [] []:=
    SW.below (w:=w.alloc (.cells #[.slice none 0 0,.slice none 0 0] 146)) ⟨au _,Bk.new _ _ _,cj _ _ _ _,cj _ _ _ _⟩ hb1
  have hbw:Below w.heap.size w w1:=((aC _ _).alloc (au _) _).trans (hb1.mono (by simp));have H1:=aa (ac hm1 (ac s1 hbw));clear hm1 hb1 s1 hbw;go_loopw [13] (fun i wr=>∃(k:Nat) (v1 v2:Value),k≤l.length∧i=.int .i64 k∧SW wr w.heap.size w.heap.size v1 v2 (eJ l k) (kM l k)∧eI wr (w.heap.size+1) bm (fY l k).1 (fY l k).2 k∧Below w.heap.size w wr) (fun i _=>l.length-(intOf i).toNat)
  case atStart=>exact⟨0,_,_,by omega,rfl,H1.out.2.1,by have:=H1.out.1;simpa [fY] using this,H1.out.2.2⟩
  case round=>
    obtain⟨k,v1,v2,hk,rfl,s2,hm2,hb2⟩:=hrel;have hbot:=kU l k;have hv:=sa l k;have hlen:=ji l k;have HR:=aa (ac hm2 (ac hb2 (ac hbot (ac hv s2))));clear hm2 hb2 hbot hv s2;by_cases hlt:k<l.length
    ·have hi0:(0:Int)≤(k:Int):=by omega
     have hi1:(k:Int)<(l.length:Int):=by omega
     have en:=ym l k hlt;have hbot2:=kU l (k+1);have HB2:=aa (ac en (ac hbot2 (ji l (k+1))));clear en hbot2
     go_wp2_with (first
       | (go_at_call 145;refine(Bq (w.heap.size+1) bm _ _ _ _ _ HR.out.1 HR.out.2.2.1 HR.out.2.2.2.1 (by omega) (by omega) (by omega)).mono ?_;rintro e w2 ⟨rfl,hm3,hb3⟩;rw[←HB2.out.1] at hm3;have s3:=HR.out.2.2.2.2.kt hb3.t (by decide) (by decide) (by decide);have H3:=aa (ac hm3 (ac hb3 s3));clear hm3 hb3 s3)
       | (go_at_call 147;refine(zp (w.heap.size+1) bm _ _ _ _ H3.out.1 HB2.out.2.1.ne (by have:=HB2.out.2.2;omega)).mono ?_;rintro e w3 ⟨g,c,rfl,hfr,hb4⟩;have s4:=H3.out.2.2.below hb4;have hm4:=H3.out.1.below hb4;obtain⟨N,hN⟩:∃N,(fY l (k+1)).1.length=N+1:=⟨_,Ic l (k+1)⟩;unfold Fr at hfr;rw[hN] at hfr ⊢;obtain⟨C,rfl⟩:∃C,c=C+1:=⟨c-1,by have:=gM hfr;omega⟩;have H4:=aa (ac s4 (ac hm4 (ac hfr (ac hb4 hN))));clear s4 hm4 hfr hb4 hN)
       | (go_at_call 146;refine(MH w.heap.size w.heap.size g C N v1 v2 (eJ l k) (kM l k) (fY l (k+1)).1 k _ (Na H4.out.1 H4.out.2.2.1 (by have:=H3.out.2.1.b.size;have:=HR.out.2.1.size;omega)) H4.out.2.2.2.2 (by omega) (by have:=oP l k;omega) (by have:=HB2.out.2.2;have:=H4.out.2.2.2.2;omega) (by have:=Du l k;omega) (Gu l k)).mono ?_;rintro e w5 ⟨rfl,⟨v1',v2',s5⟩,hb5⟩;have hm5:=H4.out.2.1.kt hb5.t (by decide) (by decide);have H5:=aa (ac s5 (ac hm5 hb5));clear s5 hm5 hb5))
     obtain⟨s5,hm5,hb5⟩:=H5.out;have ec:An (oM (fY l (k+1)).1.reverse.tail) (k:Int) (eJ l k) (kM l k)=(eJ l (k+1),kM l (k+1)):=by
       rw[sP];exact CX l k
     rw[ec] at s5;have q1:Below w.heap.size w w2:=HR.out.2.1.trans (H3.out.2.1.b.mono (by omega));have q2:Below w.heap.size w w3:=q1.trans (H4.out.2.2.2.1.mono q1.size);exact⟨⟨k+1,v1',v2',by omega,by go_num,⟨s5.le,s5.hd,s5.ol,s5.oh⟩,by simpa using hm5,q2.trans hb5.b⟩,by simp[intOf];omega⟩
    ·have e:k=l.length:=by omega
     subst e;obtain⟨hm2,hb2,_,_,s2⟩:=HR.out;obtain⟨wo,rfl⟩:∃wo:World,wo=wr:=⟨_,rfl⟩;obtain⟨A1,n1,c1,rfl⟩:=dR s2.ol;obtain rfl:=ei s2.ol;have y0:wo.cell? ⟨w.heap.size,0,none⟩=some (.slice A1 (eJ l l.length).length c1):=by rw[s2.hd.cell];rfl
     have hcl:=oP l l.length;have hfr:=fun q hq=>(mC l l.length).bnd q hq
     have HC:=aa hfr;have H2:=aa (ac s2 hb2);clear s2 hb2 hm2 hfr;generalize hcs:eJ l l.length=cs at *;have HCS:=aa hcs;clear hcs;go_wp2_with fail;go_loopw [32] (fun i wx=>∃(k:Nat) (v1:Value),k≤cs.length∧i=.int .i64 k∧SW wx w.heap.size w.heap.size v1 v2 (lu l cs k) (kM l l.length)∧Below w.heap.size w wx) (fun i _=>cs.length-(intOf i).toNat)
     case atStart=>exact⟨0,_,by omega,rfl,by simpa [lu] using H2.out.1,H2.out.2⟩
     case round=>
       obtain⟨i,v1',hi,rfl,s3,hb3⟩:=hrel;obtain⟨A3,n3,c3,rfl⟩:=dR s3.ol;obtain rfl:=ei s3.ol;have hfl:(lu l cs i).length=cs.length:=DC l cs i;rw[hfl] at s3;have hol:=s3.ol;rw[hfl] at hol;have y1:wr.cell? ⟨w.heap.size,0,none⟩=some (.slice A3 cs.length c3):=by rw[s3.hd.cell];rfl
       by_cases hlt2:i<cs.length
       ·obtain⟨q,hq⟩:∃q,cs[i]? = some q:=⟨_,ax hlt2⟩;obtain⟨g3,rfl⟩:=jb hol (by omega);have hqi:=GD l cs i q hq;have y2:=dW hol _ _ (eW _ i q hqi 4 _ rfl);have y3:wr.cell? ⟨g3,i*5,none⟩=some (.int .i64 q.mode):=dW hol _ _ (eW _ i q hqi 0 _ rfl);have y4:=dW hol _ _ (eW _ i q hqi 1 _ rfl);have y5:=dW hol _ _ (eW _ i q hqi 2 _ rfl);have f5:=gC hol (i*5+2);have k1:(i:Int)<(cs.length:Int):=by omega
        have k2:(0:Int)≤(i:Int):=by omega
        obtain⟨hf0,hf1⟩:=HC.out q.fr (bX.2 ⟨q,aO hq,rfl⟩);have H3:=aa (ac s3 (ac hb3 (ac hq hqi)));clear s3 hb3 hq hqi hol y0;go_upto_if 44 with fail
        obtain⟨q2,hq2⟩:∃q2,q2=ls l.length q:=⟨_,rfl⟩;go_cut [] (fun wx=>SW wx w.heap.size w.heap.size (.slice (some ⟨g3,0,none⟩) cs.length c3) v2 ((lu l cs i).set i q2) (kM l l.length)∧Below w.heap.size wr wx)
        case first=>
          cases hop:q.op
          ·rw[hop] at y2;have HO:=aa (ac hop hq2);clear hop hq2;go_wp2_with fail;go_meet;obtain⟨hop,hq2⟩:=HO.out;refine⟨?_,aC _ _⟩;rw[hq2,show ls l.length q=q by unfold ls;rw[aB (by rw[hop];simp)],EC H3.out.2.2.2];exact H3.out.1
          ·rw[hop] at y2;have HO:=aa (ac hop hq2);clear hop hq2;go_wp2_with fail;go_meet;obtain⟨hop,hq2⟩:=HO.out;refine⟨?_,(aC _ _).setCell H3.out.1.gle _⟩;rw[hq2,show ls l.length q=setTo q l.length by unfold ls;rw[aD hop];rfl];exact H3.out.1.setL _ _ (jG _ i q (setTo q l.length) 2 _ H3.out.2.2.2 (by omega) rfl) (by simp)
        case rest=>
          obtain⟨s4,hb4⟩:=hcut;have hL2:((lu l cs i).set i q2)[i]? = some q2:=by rw[List.getElem?_set_self (by rw[hfl];omega)]
          have hfl2:((lu l cs i).set i q2).length=cs.length:=by simp[hfl]
          have hol2:=s4.ol;rw[hfl2] at hol2;have hqm:q2.mode=q.mode:=by rw[hq2];unfold ls;split<;>rfl
          have hqf:q2.fr=q.fr:=by rw[hq2];exact zq _ _
          have y3':wc.cell? ⟨g3,i*5,none⟩=some (.int .i64 q.mode):=by rw[←hqm];exact dW hol2 _ _ (eW _ i q2 hL2 0 _ rfl)
          have y4':wc.cell? ⟨g3,i*5+1,none⟩=some (.int .i64 q.fr):=by rw[←hqf];exact dW hol2 _ _ (eW _ i q2 hL2 1 _ rfl)
          have y5':wc.cell? ⟨g3,i*5+2,none⟩=some (.int .i64 (tu q2)):=dW hol2 _ _ (eW _ i q2 hL2 2 _ rfl);have y6':wc.cell? ⟨g3,i*5+4,none⟩=some (.bool q2.op):=dW hol2 _ _ (eW _ i q2 hL2 4 _ rfl);have f5':=gC hol2 (i*5+2);have f6':=gC hol2 (i*5+4);have H4:=aa (ac s4 (ac hb4 (ac hL2 (ac hqm (ac hqf hq2)))));clear s4 hb4 hL2 hfl2 hol2 hqm hqf hq2 y1 y2 y3 y4 y5 f5;by_cases hm12:q.mode=12
          ·have k3:(q.mode==12)=true:=by simpa using hm12
           have HM:=aa hm12;have k5:=wJ l (q.fr+1).toNat;clear hm12;have k6:IntKind.i64.wrap (q.fr+1)=q.fr+1:=aS _ (by omega);have k7:IntKind.i64.wrap (q.fr+1+(pn l (q.fr+1).toNat:Int))=q.fr+1+(pn l (q.fr+1).toNat:Int):=aS _ (by omega);have c1:0≤q.fr+1:=by omega
           have c2:q.fr+1≤100000:=by omega
           have c3':l.length≤100000:=by omega
           go_upto_region 16 with fail
           go_wp2_with fail;go_region_with (go_at_call 148;with_reducible refine(Jj l (q.fr+1) _ c1 c2 c3').mono ?_;rintro e w' ⟨rfl,rfl⟩);all_goals go_wp2_with fail
           all_goals clear k6 k7
           all_goals (
             obtain⟨s4,hb4,hL2,hqm,hqf,hq2⟩:=H4.out;obtain⟨s3,hb3,hq,hqi⟩:=H3.out;have e:nU l q=J2 q2 (q.fr+1+(pn l (q.fr+1).toNat:Int)):=by
               unfold nU nV;rw[←hq2,aD (by rw[hqm];exact HM.out)];unfold J2;rw[hqf]
             have hsw:=s4.drew.dol hL2 (q.fr+1+(pn l (q.fr+1).toNat:Int));rw[List.set_set,←e,uz l cs i q hq] at hsw;exact⟨⟨i+1,_,by omega,by go_num,hsw,(hb3.trans hb4).trans (((aC _ _).drew.setCell s4.gle _).setCell s4.gle _)⟩,by simp[intOf];omega⟩)
          ·have k3:(q.mode==12)=false:=by simpa using hm12
           have HM:=aa hm12;clear hm12;go_wp2_with fail;obtain⟨s4,hb4,hL2,hqm,hqf,hq2⟩:=H4.out;obtain⟨s3,hb3,hq,hqi⟩:=H3.out;refine⟨⟨i+1,.slice (some ⟨g3,0,none⟩) cs.length c3,by omega,by go_num,?_,hb3.trans hb4⟩,by simp[intOf];omega⟩;rw[←uz l cs i q hq];have e:nU l q=q2:=by unfold nU nV;rw[←hq2,aB (by rw[hqm];exact HM.out)]
           rw[e];exact s4
       ·have e2:i=cs.length:=by omega
        have H3:=aa (ac s3 hb3);clear s3 hb3 hol y0;go_wp2_with fail;go_ret;obtain⟨s3,hb3⟩:=H3.out;have e3:lu l cs i=eC l:=by unfold lu eC;rw[HCS.out,e2,bR (au _),List.drop_length,bz]
        have ho:=s3.ol;rw[e3] at ho;exact⟨_,rfl,ho,hb3⟩
instance:DecidableEq fh:=fun⟨a,b,c,d,e⟩ ⟨a2,b2,c2,d2,e2⟩=>decidable_of_iff (a=a2∧b=b2∧c=c2∧d=d2∧e=e2) (by simp)
theorem rp (h:w.ownsRow B 79 5 (.slice (some ⟨g,0,none⟩) n c) n (fw L)) (hi:L[i]? = some q) :
    w.cell? ⟨g,i*5,none⟩=some (.int .i64 q.mode)∧w.cell? ⟨g,i*5+1,none⟩=some (.int .i64 q.fr)∧w.cell? ⟨g,i*5+2,none⟩=some (.int .i64 (tu q))∧w.cell? ⟨g,i*5+3,none⟩=some (.int .i64 q.up)∧w.cell? ⟨g,i*5+4,none⟩=some (.bool q.op):=
  ⟨dW h _ _ (eW _ i q hi 0 _ rfl),dW h _ _ (eW _ i q hi 1 _ rfl),dW h _ _ (eW _ i q hi 2 _ rfl),dW h _ _ (eW _ i q hi 3 _ rfl),dW h _ _ (eW _ i q hi 4 _ rfl)⟩
theorem oz:(eC l).length≤l.length:=by unfold eC;rw[cH];exact oP l l.length
end Go.Proofs.YtcagfamdoaoimaaGreatDoor
