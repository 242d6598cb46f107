/- The program's walker sees the stack behind a byte (parts.walker.see): what was shut, what stays, what opened. -/
import Derived.Test.YtlbfdbinaekjoaaGreatDoorPa0
import Derived.Deep.DeepCutAuto
import Derived.Deep.CutBlock
import Derived.IntWalk
import Derived.StillTailTactics
namespace Go.Proofs.YtlbfdbinaekjoaaGreatDoor
open Go.RowKit
set_option linter.unusedVariables false
set_option linter.unusedSimpArgs false
set_option maxRecDepth 100000
set_option maxHeartbeats 4000000 in
theorem see_m (B b gf C N:Nat) (v1 v2:Value) (l:List Prt) (h:List Nat) (st:Stk) (at_:Nat) (w:World) (s:SS w B b v1 v2 (.slice (some ⟨gf,0,none⟩) (N+1) (C+1)) l h (N+1) (fcells st)) (hst:st.length=N+1) (hat:at_≤100000) (hl:l.length≤100000) (hs:N≤100000) (hh:h.length≤100000)
    (hv:∀x∈h,x<l.length) :
    Calls Tryz.prog 156 #[.pointer (some ⟨b,0,none⟩),.slice (some ⟨gf,0,none⟩) (N+1) (C+1),.int .i64 (at_:Int)] w fun e w'=>e=.returned (.tuple #[]) ∧
      (∃v1' v2',SS w' B b v1' v2' (.slice (some ⟨gf,0,none⟩) (N+1) (C+1)) (seeP (fsP st.reverse.tail) at_ l h).1 (seeP (fsP st.reverse.tail) at_ l h).2 (N+1) (fcells st))∧BW B w w':=by
  have hcap:=own_le s.of
  have hc1:N≤C:=by omega
  have hc3:C+1≤maxLen:=by omega
  unfold maxLen at hc3
  obtain⟨A2,n2,c2,rfl⟩:=own_form' s.oh
  obtain rfl:=own_len s.oh
  have y1:w.cell? ⟨b,1,none⟩=some (.slice A2 h.length c2):=by rw[s.hd.cell];rfl
  obtain⟨i0,hi0,hz0,hz1,hz2⟩:=info_parts Tryz.infoI
  obtain⟨ip,hip,hp0,hp1,hp2⟩:=info_parts Tryz.infoPart
  have S0:=Lib.hid s
  have HST:=Lib.hid hst
  clear s hcap hst
  go_enter Tryz.func156,Tryz.ntmps156
  go_upto_region 0 with fail
  go_cut [1] (fun s1 wx=>w=wx∧∃A c,s1=.slice A N c∧N≤c∧c≤C∧(1≤N→A=some ⟨gf,2,none⟩))
  case first=>
    go_wp2_with fail
    all_goals (
      go_meet
      refine⟨rfl,_,_,rfl,by omega,by omega,?_⟩
      first
        | exact fun _=>rfl
        | (intro h;exfalso;omega))
  case rest=>
    obtain⟨rfl,A,cA,rfl,hcA,hcA2,hA⟩:=hcut
    go_upto_block 0 with fail
    go_cut [] (fun wx=>∃l1 h1 v1' v2',SS wx B b v1' v2' (.slice (some ⟨gf,0,none⟩) (N+1) (C+1)) l1 h1 (N+1) (fcells st)∧l1.length=l.length∧h1.length≤h.length∧(∀x∈h1,x<l.length)∧seePop (fsP st.reverse.tail) at_ h.length l h=(l1,h1)∧BW B w wx)
    case first=>
      go_wp2_with fail
      go_loopw [6] (fun s6 wr=>∃(m:Nat) (l1:List Prt) (h1:List Nat) (v1' v2':Value),s6=.int .i64 m∧SS wr B b v1' v2' (.slice (some ⟨gf,0,none⟩) (N+1) (C+1)) l1 h1 (N+1) (fcells st)∧l1.length=l.length∧h1.length=m∧m≤h.length∧(∀x∈h1,x<l.length) ∧
        seePop (fsP st.reverse.tail) at_ h.length l h=seePop (fsP st.reverse.tail) at_ m l1 h1∧BW B w wr) (fun s6 _=>(intOf s6).toNat)
      case atStart=>exact⟨h.length,l,h,_,_,rfl,S0.out,rfl,rfl,Nat.le_refl _,hv,rfl,BW.refl _ _⟩
      case round=>
        obtain⟨m,l1,h1,v1',v2',rfl,s1,hl1,hh1,hmh,hv1,he,hb⟩:=hrel
        cases m with
        | zero=>
          have HR:=Lib.hid (And.intro s1 (And.intro hl1 (And.intro hh1 (And.intro hv1 (And.intro he hb)))))
          clear s1 hl1 hh1 hv1 he hb
          go_wp2_with fail
          go_meet
          obtain⟨s1,hl1,hh1,hv1,he,hb⟩:=HR.out
          exact⟨l1,h1,_,v2',s1,hl1,by omega,hv1,by rw[he];rfl,hb⟩
        | succ m=>
          have hoh:=s1.oh
          rw[hh1] at hoh
          obtain⟨g2,cp2,rfl⟩:=own_some hoh
          obtain⟨k,hk⟩:∃k,h1[m]? = some k:=⟨_,List.getElem?_eq_getElem (by omega)⟩
          have hkl:k<l.length:=hv1 k (List.mem_of_getElem? hk)
          obtain⟨q,hq⟩:∃q,l1[k]? = some q:=⟨_,List.getElem?_eq_getElem (by omega)⟩
          obtain⟨L',hL'⟩:∃L',l.length=L'+1:=⟨l.length-1,by omega⟩
          have hol:=s1.ol
          rw[hl1,hL'] at hol
          obtain⟨g1,cp1,rfl⟩:=own_some hol
          have y0:wr.cell? ⟨b,0,none⟩=some (.slice (some ⟨g1,0,none⟩) (L'+1) cp1):=by rw[s1.hd.cell];rfl
          have y1':wr.cell? ⟨b,1,none⟩=some (.slice (some ⟨g2,0,none⟩) (m+1) cp2):=by rw[s1.hd.cell];rfl
          have y2:wr.cell? ⟨g2,m,none⟩=some (.int .i64 (k:Int)):=own_cell hoh _ _ (ncells_get hk)
          have y3:wr.cell? ⟨g1,k*5+1,none⟩=some (.int .i64 q.fr):=own_cell hol _ _ (pcells_get l1 k q hq 1 _ rfl)
          have y5:wr.cell? ⟨g1,k*5+2,none⟩=some (.int .i64 (toP q)):=own_cell hol _ _ (pcells_get l1 k q hq 2 _ rfl)
          have y6:wr.cell? ⟨g1,k*5+4,none⟩=some (.bool q.op):=own_cell hol _ _ (pcells_get l1 k q hq 4 _ rfl)
          have f5:=own_frozen hol (k*5+2)
          have f6:=own_frozen hol (k*5+4)
          have k0:IntKind.i64.wrap ((at_:Int)+1)=(at_:Int)+1:=IntWalk.i64_in _ (by omega)
          have k1:(k:Int)<(L':Int)+1:=by omega
          have k2:(0:Int)≤(k:Int):=by omega
          have HR:=Lib.hid (And.intro s1 (And.intro hl1 (And.intro hh1 (And.intro hv1 (And.intro he (And.intro hb (And.intro hk (And.intro hq hL'))))))))
          clear s1 hl1 hh1 hv1 he hb hk hq hoh hol hv
          by_cases hmN:m+1≤N
          ·obtain⟨⟨mm,p⟩,hp⟩:∃x,(fsP st.reverse.tail)[m]? = some x:=⟨_,List.getElem?_eq_getElem (by have:=HST.out;simp[fsP];omega)⟩
           obtain⟨_,hc⟩:=frame_cells st m mm p hp
           have y4:wr.cell? ⟨gf,2+m*2+1,none⟩=some (.int .i64 p):=by
             rw[show 2+m*2+1=(m+1)*2+1 by omega]
             exact own_cell HR.out.1.of _ _ hc
           obtain rfl:=hA (by omega)
           have k3:decide ((m:Int)+1≤(N:Int))=true:=by simp;omega
           have k4:(m:Int)<(N:Int):=by omega
           clear hA hc
           by_cases heq:p=q.fr
           ·have HE:=Lib.hid (And.intro hp heq)
            have k5:(p==q.fr)=true:=by simpa using heq
            clear hp heq k0
            go_wp2_with fail
            go_quiet (fail)
            go_wp2_with fail
            go_meet
            obtain⟨s1,hl1,hh1,hv1,he,hb,hk,hq,hL'⟩:=HR.out
            refine⟨l1,h1,_,_,s1.drewN _,hl1,by omega,hv1,?_,hb.drewN _⟩
            rw[he]
            unfold seePop
            rw[if_pos]
            refine⟨by have:=(List.getElem?_eq_some_iff.1 HE.out.1).1;omega,?_⟩
            rw[getD_of hk,getD_of hq,getD_of HE.out.1]
            exact HE.out.2
           ·have HE:=Lib.hid (And.intro hp heq)
            have k5:(p==q.fr)=false:=by simpa using heq
            clear hp heq
            go_wp2_with fail
            go_quiet (fail)
            go_upto_region 6 with fail
            go_cut [] (fun wx=>SS wx B b (.slice (some ⟨g1,0,none⟩) (L'+1) cp1) (.slice (some ⟨g2,0,none⟩) (m+1) cp2) (.slice (some ⟨gf,0,none⟩) (N+1) (C+1)) (l1.set k (clo1 at_ q)) h1 (N+1) (fcells st)∧BW B wr wx)
            case first=>
              go_wp2_with fail
              go_region
              all_goals (
                go_wp2_with fail
                go_meet
                have hs2:=see_shut (HR.out.1.drewN (nq+1)) HR.out.2.2.2.2.2.2.2.1 (at_:Int)
                have hb2:=((BW.refl B wr).drewN (nq+1)).elt2 (HR.out.1.drewN (nq+1)) (k*5+2) (k*5+4) (.int .i64 ((at_:Int)+1)) (.bool false)
                exact⟨hs2,hb2⟩)
            case rest=>
              obtain⟨s2,hb2⟩:=hcut
              have z0:wc.cell? ⟨b,1,none⟩=some (.slice (some ⟨g2,0,none⟩) (m+1) cp2):=by rw[s2.hd.cell];rfl
              have zf:=s2.hd.frozen 1
              have hle:=own_le s2.oh
              have hm1:m+1≤cp2:=by have:=HR.out.2.2.1;omega
              have hcp2:cp2≤maxLen:=hle.2.2.1
              unfold maxLen at hcp2
              have H2:=Lib.hid (And.intro s2 hb2)
              clear s2 hb2 hle k0
              go_wp2_with fail
              obtain⟨s1,hl1,hh1,hv1,he,hb,hk,hq,hL'⟩:=HR.out
              obtain⟨s2,hb2⟩:=H2.out
              refine⟨⟨m,l1.set k (clo1 at_ q),h1.take m,_,_,rfl,s2.pop hh1,by simpa using hl1,by rw[List.length_take];omega,by omega,fun x hx=>hv1 x (List.mem_of_mem_take hx),?_,(hb.trans hb2).hdB s2.hd s2.le _ _⟩,by simp[intOf]⟩
              rw[he]
              exact seePop_go hk hq (fun h=>HE.out.2 (by have h2:=h.2;rwa [getD_of HE.out.1] at h2))
          ·have k3:decide ((m:Int)+1≤(N:Int))=false:=by simp;omega
           clear hA
           go_wp2_with fail
           go_quiet (fail)
           go_upto_region 6 with fail
           go_cut [] (fun wx=>SS wx B b (.slice (some ⟨g1,0,none⟩) (L'+1) cp1) (.slice (some ⟨g2,0,none⟩) (m+1) cp2) (.slice (some ⟨gf,0,none⟩) (N+1) (C+1)) (l1.set k (clo1 at_ q)) h1 (N+1) (fcells st)∧BW B wr wx)
           case first=>
             go_wp2_with fail
             go_region
             all_goals (
               go_wp2_with fail
               go_meet
               have hs2:=see_shut (HR.out.1.drewN (nq+1)) HR.out.2.2.2.2.2.2.2.1 (at_:Int)
               have hb2:=((BW.refl B wr).drewN (nq+1)).elt2 (HR.out.1.drewN (nq+1)) (k*5+2) (k*5+4) (.int .i64 ((at_:Int)+1)) (.bool false)
               exact⟨hs2,hb2⟩)
           case rest=>
             obtain⟨s2,hb2⟩:=hcut
             have z0:wc.cell? ⟨b,1,none⟩=some (.slice (some ⟨g2,0,none⟩) (m+1) cp2):=by rw[s2.hd.cell];rfl
             have zf:=s2.hd.frozen 1
             have hle:=own_le s2.oh
             have hm1:m+1≤cp2:=by have:=HR.out.2.2.1;omega
             have hcp2:cp2≤maxLen:=hle.2.2.1
             unfold maxLen at hcp2
             have H2:=Lib.hid (And.intro s2 hb2)
             clear s2 hb2 hle k0
             go_wp2_with fail
             obtain⟨s1,hl1,hh1,hv1,he,hb,hk,hq,hL'⟩:=HR.out
             obtain⟨s2,hb2⟩:=H2.out
             refine⟨⟨m,l1.set k (clo1 at_ q),h1.take m,_,_,rfl,s2.pop hh1,by simpa using hl1,by rw[List.length_take];omega,by omega,fun x hx=>hv1 x (List.mem_of_mem_take hx),?_,(hb.trans hb2).hdB s2.hd s2.le _ _⟩,by simp[intOf]⟩
             rw[he]
             exact seePop_go hk hq (fun h=>hmN (by have h2:=h.1;have h3:=HST.out;simp[fsP] at h2;omega))
    case rest=>
      obtain⟨l1,h1,v1',v2',s1,hl1,hh1,hv1,he,hb⟩:=hcut
      have H1:=Lib.hid (And.intro s1 (And.intro hl1 (And.intro hh1 (And.intro hv1 (And.intro he hb)))))
      have hF:(fsP st.reverse.tail).length=N:=by have:=HST.out;simp[fsP];omega
      have HF:=Lib.hid hF
      clear s1 hl1 hh1 hv1 he hb hv hF y1
      go_wp2_with fail
      go_loopw [79] (fun s79 wr=>∃(i:Nat) (l2:List Prt) (h2:List Nat) (v1' v2':Value),s79=.int .i64 i∧i≤N∧SS wr B b v1' v2' (.slice (some ⟨gf,0,none⟩) (N+1) (C+1)) l2 h2 (N+1) (fcells st)∧(∀x∈h2,x<l2.length)∧l2.length≤l.length+i∧h2.length≤h.length+i∧i≤h2.length ∧
        seePush ((fsP st.reverse.tail).drop i) i l2 h2=seeP (fsP st.reverse.tail) at_ l h∧BW B w wr) (fun s79 _=>N-(intOf s79).toNat)
      case atStart=>
        obtain⟨s1,hl1,hh1,hv1,he,hb⟩:=H1.out
        exact⟨0,l1,h1,_,_,rfl,by omega,s1,by rw[hl1];exact hv1,by omega,by omega,by omega,by unfold seeP;rw[he];rfl,hb⟩
      case round=>
        obtain⟨i,l2,h2,v1'',v2'',rfl,hi,s2,hv2,hl2,hh2,hih0,he2,hb2⟩:=hrel
        by_cases hiN:i<N
        ·obtain⟨⟨mm,p⟩,hp⟩:∃x,(fsP st.reverse.tail)[i]? = some x:=⟨_,List.getElem?_eq_getElem (by have:=HF.out;omega)⟩
         obtain⟨e1,e2⟩:=frame_cells st i mm p hp
         have y3:wr.cell? ⟨gf,2+i*2,none⟩=some (.int .i64 mm):=by
           rw[show 2+i*2=(i+1)*2 by omega]
           exact own_cell s2.of _ _ e1
         have y4:wr.cell? ⟨gf,2+i*2+1,none⟩=some (.int .i64 p):=by
           rw[show 2+i*2+1=(i+1)*2+1 by omega]
           exact own_cell s2.of _ _ e2
         obtain rfl:=hA (by omega)
         have k4:(i:Int)<(N:Int):=by omega
         have k5:(0:Int)≤(i:Int):=by omega
         obtain⟨A3,n3,c3,rfl⟩:=own_form' s2.oh
         obtain rfl:=own_len s2.oh
         obtain⟨A4,n4,c4,rfl⟩:=own_form' s2.ol
         obtain rfl:=own_len s2.ol
         have y1:wr.cell? ⟨b,1,none⟩=some (.slice A3 h2.length c3):=by rw[s2.hd.cell];rfl
         have y0:wr.cell? ⟨b,0,none⟩=some (.slice A4 l2.length c4):=by rw[s2.hd.cell];rfl
         have H2:=Lib.hid (And.intro s2 (And.intro hv2 (And.intro he2 (And.intro hb2 hp))))
         clear s2 hv2 he2 hb2 hp e1 e2 hA y1 y0
         go_upto_region 10 with fail
         go_cut [8,9] (fun s8 s9 wx=>s8=.int .i64 (i:Int)∧∃F0,s9=.pointer (some ⟨F0,0,none⟩)∧Bk wx F0 138 #[.int .i64 mm,.int .i64 p]∧SS wx B b (.slice A4 l2.length c4) (.slice A3 h2.length c3) (.slice (some ⟨gf,0,none⟩) (N+1) (C+1)) l2 h2 (N+1) (fcells st)∧BW B wr wx∧B≤F0∧F0≠b)
         case first=>
           go_wp2_with fail
           go_meet
           have hsz:=H2.out.1.hd.lt
           exact⟨rfl,_,rfl,Bk.new _ _ _,H2.out.1.alloc _,(BW.refl _ _).alloc (by have:=H2.out.1.le;omega) _,by have:=H2.out.1.le;omega,by omega⟩
         case rest=>
           obtain⟨rfl,F0,rfl,hF0,s3,hb3,hBF,hFb⟩:=hcut
           have y5:wc.cell? ⟨F0,0,none⟩=some (.int .i64 mm):=by rw[hF0.cell];rfl
           have y6:wc.cell? ⟨F0,1,none⟩=some (.int .i64 p):=by rw[hF0.cell];rfl
           have y1:wc.cell? ⟨b,1,none⟩=some (.slice A3 h2.length c3):=by rw[s3.hd.cell];rfl
           have y0:wc.cell? ⟨b,0,none⟩=some (.slice A4 l2.length c4):=by rw[s3.hd.cell];rfl
           by_cases hih:i<h2.length
           ·have k3:decide ((i:Int)<(h2.length:Int))=true:=by simp;omega
            obtain⟨u,hu⟩:∃u,h2[i]? = some u:=⟨_,List.getElem?_eq_getElem hih⟩
            have hul:=H2.out.2.1 u (List.mem_of_getElem? hu)
            obtain⟨q,hq⟩:∃q,l2[u]? = some q:=⟨_,List.getElem?_eq_getElem hul⟩
            obtain⟨g3,rfl⟩:=own_at s3.oh (by omega)
            obtain⟨g4,rfl⟩:=own_at s3.ol (by omega)
            have y7:=own_cell s3.oh _ _ (ncells_get hu)
            have y8:wc.cell? ⟨g4,u*5,none⟩=some (.int .i64 q.mode):=own_cell s3.ol _ _ (pcells_get l2 u q hq 0 _ rfl)
            have f8:=own_frozen s3.ol (u*5)
            have k6:(u:Int)<(l2.length:Int):=by omega
            have k7:(0:Int)≤(u:Int):=by omega
            have k8:(i:Int)<(h2.length:Int):=by omega
            have H3:=Lib.hid (And.intro s3 (And.intro hb3 (And.intro hu hq)))
            clear s3 hb3 hu hq hF0
            go_upto_region 12 with fail
            go_cut [] (fun wx=>SS wx B b (.slice (some ⟨g4,0,none⟩) l2.length c4) (.slice (some ⟨g3,0,none⟩) h2.length c3) (.slice (some ⟨gf,0,none⟩) (N+1) (C+1)) (l2.set u (setMode q (cntM mm))) h2 (N+1) (fcells st)∧BW B wc wx)
            case first=>
              go_wp2_with fail
              refine wp_region_still_tail 16 (by kernel_rfl) (by kernel_rfl) ?_
              simp only[List.take_succ_cons,List.take_zero,List.drop_succ_cons,List.drop_zero]
              repeat still_step
              still_call (Calls.mono (counts_m mm _) (fun e w'' hh=>⟨hh.1,hh.2.symm⟩))
              repeat still_step
              try refine wpStill_nil ?_
              change wpList _ _ _ _ _ wc.drew
              go_wp2_with fail
              go_meet
              exact⟨(see_mode H3.out.1 H3.out.2.2.2 (cntM mm)).drew,((BW.refl _ _).elt H3.out.1 _ _).drew⟩
            case rest=>
              obtain⟨s4,hb4⟩:=hcut
              have H4:=Lib.hid (And.intro s4 hb4)
              clear s4 hb4
              go_wp2_with fail
              obtain⟨s2,hv2,he2,hb2,hp⟩:=H2.out
              obtain⟨s3,hb3,hu,hq⟩:=H3.out
              obtain⟨s4,hb4⟩:=H4.out
              refine⟨⟨i+1,l2.set u (setMode q (cntM mm)),h2,_,_,by go_num,by omega,by simpa using s4,by simpa using hv2,by rw[List.length_set];omega,by omega,by omega,?_,(hb2.trans hb3).trans hb4⟩,by simp[intOf];omega⟩
              rw[←he2]
              exact(seePush_stay hp hu hq hih).symm
           ·have k3:decide ((i:Int)<(h2.length:Int))=false:=by simp;omega
            obtain⟨up,hup⟩:∃up:Int,(if 0<i then ((h2.getD (i-1) 0:Nat):Int) else -1)=up:=⟨_,rfl⟩
            have H3:=Lib.hid (And.intro s3 (And.intro hb3 (And.intro hF0 hup)))
            go_upto_if 108 with fail
            go_cut [10] (fun s10 wx=>wc=wx∧s10=.int .i64 up)
            case first=>
              by_cases h0:0<i
              ·rw[if_pos h0] at hup
               obtain⟨u,hu⟩:∃u,h2[i-1]? = some u:=⟨_,List.getElem?_eq_getElem (by omega)⟩
               rw[getD_of hu] at hup
               obtain⟨g3,rfl⟩:=own_at s3.oh (by omega)
               have y7:=own_cell s3.oh _ _ (ncells_get hu)
               have k6:(1:Int)≤(i:Int):=by omega
               have k7:(0:Int)≤(i:Int)-1:=by omega
               have k8:(i:Int)-1<(h2.length:Int):=by omega
               have k9:((i:Int)-1).toNat=i-1:=by omega
               subst hup
               clear s3 hb3 hF0 hu
               go_wp2_with fail
               go_meet
               exact⟨rfl,rfl⟩
              ·rw[if_neg h0] at hup
               have k6:¬(0:Int)<(i:Int):=by omega
               subst hup
               clear s3 hb3 hF0
               go_wp2_with fail
               go_meet
               exact⟨rfl,rfl⟩
            case rest=>
              obtain⟨rfl,rfl⟩:=hcut
              have hbs:b<wc.heap.size:=s3.hd.lt
              have hbn:¬b=wc.heap.size:=by omega
              clear s3 hb3 hF0 hup
              go_upto_region 16 with fail
              go_cut [] (fun wx=>∃v,SS wx B b (.slice A4 l2.length c4) v (.slice (some ⟨gf,0,none⟩) (N+1) (C+1)) l2 (h2++[l2.length]) (N+1) (fcells st)∧Bk wx F0 138 #[.int .i64 mm,.int .i64 p]∧BW B wc wx)
              case first=>
                go_wp2_with fail
                go_region_law (first
                  | (refine step_append_rd rfl (.tmp 121) (.tmp 127) 31 rfl B 3 i0 _ 1 8 Tryz.underlying31 hi0 hz0 hz1 hz2 rfl (by decide) (.slice A3 h2.length c3) h2.length (ncells h2) (by simp[Act.eval]) (H3.out.1.oh.alloc _) (.slice (some ⟨wc.heap.size,0,none⟩) 1 1) 1 (wc.heap.size+1) [.int .i64 (l2.length:Int)] (by simp[Act.eval]) (Rd.drew (rd_new wc [.int .i64 (l2.length:Int)] 3 1 1 rfl (by omega))) (by intro u hu;simp at hu;subst hu;rfl) (by unfold maxLen;omega) (by omega) (by have:=H3.out.1.le;have:=H3.out.1.hd.lt;simp;omega) ?_
                     intro v5 w5 hown5 hg5 hv5
                     have hk5:=see_push hown5
                     have hs5:=H3.out.1.appH hg5 hk5
                     have hF5:Bk w5 F0 138 #[.int .i64 mm,.int .i64 p]:=(H3.out.2.2.1.alloc _).drew.grown hg5 (Ne.symm (own_ne H3.out.1.oh H3.out.2.2.1 (by decide)))
                     have hB5:=see_push_below H3.out.1 hg5
                     have z1:w5.cell? ⟨b,1,none⟩=some (.slice A3 h2.length c3):=by rw[hs5.1.hd.cell];rfl
                     have zf:=hs5.1.hd.frozen 1
                     obtain⟨A5,n5,c5,rfl⟩:=own_form' hk5
                     have H5:=Lib.hid (And.intro hs5 (And.intro hF5 hB5))
                     clear hown5 hg5 hv5 hk5 hs5 hF5 hB5))
                all_goals (
                  go_wp2_with fail
                  go_meet
                  exact⟨_,H5.out.1.2,by simpa using H5.out.2.1.far (by simpa using hFb) _,H5.out.2.2.hdB H5.out.1.1.hd H3.out.1.le _ _⟩)
              case rest=>
                obtain⟨vh,s4,hF4,hb4⟩:=hcut
                obtain⟨A6,n6,c6,rfl⟩:=own_form' s4.oh
                have y5:wc.cell? ⟨F0,0,none⟩=some (.int .i64 mm):=by rw[hF4.cell];rfl
                have y6:wc.cell? ⟨F0,1,none⟩=some (.int .i64 p):=by rw[hF4.cell];rfl
                have y0:wc.cell? ⟨b,0,none⟩=some (.slice A4 l2.length c4):=by rw[s4.hd.cell];rfl
                have hbs:b<wc.heap.size:=s4.hd.lt
                have hbn:¬b=wc.heap.size:=by omega
                have hFn:¬F0=wc.heap.size:=by have:=hF4.lt;omega
                have H4:=Lib.hid (And.intro s4 (And.intro hb4 hF4))
                clear s4 hb4 hF4
                go_upto_region 17 with fail
                go_wp2_with fail
                have HK:=Lib.hid (And.intro hl2 (And.intro hh2 (And.intro hih0 hiN)))
                have hbd:l2.length≤300000:=by omega
                clear hl2 hh2 hih0 k4 k5 y3 y4 k3 hcA hcA2 hc1 hc3 hz0 hz1 hz2 hi0
                go_region_law (first
                    | (refine step_append_rd rfl (.tmp 135) (.tmp 143) 143 rfl B 149 ip _ 5 40 Tryz.underlying143 hip hp0 hp1 hp2 rfl (by decide) (.slice A4 l2.length c4) l2.length (pcells l2) (by simp[Act.eval]) (H4.out.1.ol.alloc _) (.slice (some ⟨wc.heap.size,0,none⟩) 1 1) 1 (wc.heap.size+1) (pcell ⟨cntM mm,p,0,up,true⟩) (by simp[Act.eval]) (Rd.drew (rd_new wc (pcell ⟨cntM mm,p,0,up,true⟩) 149 5 1 rfl (by omega))) (one_part _) (by unfold maxLen;omega) (by omega) (by have:=H4.out.1.le;simp;omega) ?_
                       intro v5 w5 hown5 hg5 hv5
                       have hk5:=see_add hown5
                       have hs5:=H4.out.1.appL hg5 hk5
                       have hB5:=see_add_below H4.out.1 hg5
                       have z1:w5.cell? ⟨b,0,none⟩=some (.slice A4 l2.length c4):=by rw[hs5.1.hd.cell];rfl
                       have zf:=hs5.1.hd.frozen 0
                       have hF5:Bk w5 F0 138 #[.int .i64 mm,.int .i64 p]:=(H4.out.2.2.alloc _).drew.grown hg5 (Ne.symm (own_ne H4.out.1.ol H4.out.2.2 (by decide)))
                       have zF0:w5.cell? ⟨F0,0,none⟩=some (.int .i64 mm):=by rw[hF5.cell];rfl
                       have zF1:w5.cell? ⟨F0,1,none⟩=some (.int .i64 p):=by rw[hF5.cell];rfl
                       obtain⟨A5,n5,c5,rfl⟩:=own_form' hk5
                       have H5:=Lib.hid (And.intro hs5 hB5)
                       clear hown5 hg5 hv5 hk5 hs5 hB5 hF5)
                    | (go_simp;go_at_call 166;refine(counts_m mm _).mono ?_;rintro e w' ⟨rfl,rfl⟩))
                all_goals (
                    go_wp2_with fail
                    obtain⟨s2,hv2,he2,hb2,hp⟩:=H2.out
                    obtain⟨s3,hb3,hF0,hup⟩:=H3.out
                    obtain⟨s4,hb4,_⟩:=H4.out
                    obtain⟨hs5,hb5⟩:=H5.out
                    obtain⟨hl2,hh2,hih0,hiN⟩:=HK.out
                    refine⟨⟨i+1,l2++[⟨cntM mm,p,0,up,true⟩],h2++[l2.length],_,_,by go_num,by omega,hs5.2,see_valid hv2,by simp;omega,by simp;omega,by simp;omega,?_,(((hb2.trans hb3).trans hb4).trans hb5).hdB hs5.1.hd s4.le _ _⟩,by simp[intOf];omega⟩
                    rw[←he2]
                    exact(seePush_new hp hih hup).symm)
        ·have hiN2:i=N:=by omega
         have H2:=Lib.hid (And.intro s2 (And.intro he2 hb2))
         clear s2 he2 hb2 hv2
         go_wp2_with fail
         go_end0
         obtain⟨s2,he2,hb2⟩:=H2.out
         rw[List.drop_eq_nil_of_le (by have:=HF.out;omega)] at he2
         refine⟨rfl,⟨v1'',v2'',?_⟩,hb2⟩
         rw[←he2]
         exact s2
end Go.Proofs.YtlbfdbinaekjoaaGreatDoor
