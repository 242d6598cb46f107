/- The reference's parser: Parse, Begins, Command. PRINTED by gen_jf13.py. -/
import Derived.Test.YtokmnkmpdnlnaaaGreatDoorJe13
import Derived.Test.YtokmnkmpdnlnaaaGreatDoorQc13
namespace Go.Proofs.YtokmnkmpdnlnaaaGreatDoor
open Go.RowKit
set_option linter.unusedVariables false
set_option linter.unusedSimpArgs false
set_option maxRecDepth 100000
theorem sgs_take {F:List Lf} {k:Nat} {x:Lf} (hx:F[k]? = some x):(sgs F).take k++[sgnL x]=(sgs F).take (k+1):=by
  unfold sgs
  rw[List.take_add_one,List.getElem?_map,hx]
  rfl
def pMz (v:Value):Nat:=match v with | .int _ z=>if (z==2)=true then 1 else 0|_=>0
set_option maxHeartbeats 8000000 in
theorem rparse_m (F:List Lf) (fv:Value) (w:World) (hF:FB F) (hR:Rd w w.heap.size 4 fv F.length (lfcs F)) :
    Calls Tryz.prog 14 #[fv] w fun e w'=>∃v,e=.returned v∧w'.ownsRow w.heap.size 32 4 v (parseT F).l.length (ndcs (parseT F).l)∧Below w.heap.size w w':=by
  obtain⟨A,c,rfl⟩:=hR.formm
  have hn:=hF.n
  have HR:=Lib.hid hR
  clear hR
  go_enter Tryz.func14,Tryz.ntmps14
  go_wp2_with fail
  go_loopw [3,4] (fun sv iv wr=>∃k:Nat,k≤F.length∧iv=.int .i64 k∧sv=.string ⟨((sgs F).take k).toArray⟩∧Below w.heap.size w wr) (fun sv iv _=>F.length-(intOf iv).toNat)
  case atStart=>exact⟨0,Nat.zero_le _,rfl,rfl,Below.refl _ _⟩
  case round=>
    obtain⟨k,hk,rfl,rfl,hb⟩:=hrel
    by_cases hlt:k<F.length
    ·have u1:(k:Int)<(F.length:Int):=by omega
     have u2:(0:Int)≤(k:Int):=by omega
     obtain⟨x,hx⟩:∃x,F[k]? = some x:=⟨_,List.getElem?_eq_getElem hlt⟩
     have hxl:=hF.t x (List.mem_of_getElem? hx)
     obtain⟨g1,o1,rfl,y0,y1,y2,y3⟩:=lf_cells (HR.out.keep hb (Nat.le_refl _)) hx rfl
     have HS:=Lib.hid (show ByteArray.mk ((sgs F).take k).toArray++ByteArray.mk [sgnL x].toArray=⟨((sgs F).take (k+1)).toArray⟩ by rw[ba_append,sgs_take hx])
     have HB:=Lib.hid hb
     have hs9:=hb.size
     clear hb hx
     go_wp2_with (
       (go_at_call 29
        refine(rsign_m x _ (by omega)).mono ?_
        rintro e w2 ⟨rfl,hb2⟩
        have H2:=Lib.hid (HB.out.trans (hb2.mono hs9))
        clear hb2))
     exact⟨⟨k+1,by omega,by go_num,congrArg Value.string HS.out,H2.out⟩,by simp[intOf]<;>omega⟩
    ·obtain rfl:k=F.length:=by omega
     have HB:=Lib.hid hb
     rw[show (sgs F).take F.length=sgs F from List.take_of_length_le (by rw[sgs_len];exact Nat.le_refl _)]
     clear hb
     go_upto_region 7 with fail
     refine gen1 fun W0 hb0 k0 hs0=>?_
     obtain⟨g,hg⟩:∃g,g=wr.heap.size:=⟨_,rfl⟩
     rw[←hg] at k0 ⊢
     have hwg:w.heap.size≤g:=by rw[hg];exact HB.out.size
     have hBW:=HB.out.trans (hb0.mono HB.out.size)
     have M0:Nk g (.slice A F.length c) F (ps0 0) W0:=⟨⟨.slice none 0 0,k0,own_nil _ _ _ _⟩,(HR.out.keep hBW (Nat.le_refl _)).mono hwg⟩
     have H0:=Lib.hid (Ny.start M0)
     have HW:=Lib.hid hBW
     clear k0 hb0 hs0 M0 hg hBW
     have HLr:=list_r (g:=g) (fv:=.slice A F.length c) hF (F.length+1) 0 (by omega)
     have hL:=gd_lstF F (F.length+1)
     obtain⟨L,hLe⟩:∃L,L=lstF F (F.length+1):=⟨_,rfl⟩
     rw[←hLe] at HLr hL
     have hB0:Bd F 100 (ps0 0):=⟨Nat.zero_le _,by show 0≤_;omega,by show 0≤200;omega⟩
     have hi:Bd F 1 (inN 1 (ps0 0)):=⟨Nat.zero_le _,by show (([]:List Nd)++[_]).length≤46*0+1;simp,by show 0≤200;omega⟩
     have hg0:=gd_prog hL _ (inN 1 (ps0 0),false) rfl hi.p
     obtain⟨f,hf⟩:∃f:Ps→Ps,f=fun s=>(progP F L (s,false)).1:=⟨_,rfl⟩
     obtain⟨T,hT⟩:∃T,T=f (inN 1 (ps0 0)):=⟨_,rfl⟩
     have hPg:Pg F L T (inN 1 (ps0 0)) false:=⟨hi.p,hi.d,by show 1+4≤16*0+5;omega,by rw[hT,hf]⟩
     have HGE:=Lib.hid (show Gd F.length 4 (inN 1 (ps0 0)) (f (inN 1 (ps0 0))) by rw[hf];exact hg0.1)
     have HX:=Lib.hid (show parseT F=nodeP 1 f (ps0 0) by rw[hf,hLe];rfl)
     have HT:=Lib.hid hT
     clear hg0 hf hT hLe
     go_wp2_with (
       (go_at_call 30
        with_reducible refine Ny.go H0 (begin_q hF 1 (by decide) hB0) fun a1 A1=>?_))
     go_loopw [7] (fun v wr=>∃(u:Ps) (b:Bool) (z:Int),v=.int .i64 z∧(z==2)=b∧Pg F L T u b∧Ny g (.slice A F.length c) F W0 u wr) (fun v wr=>2*F.length+2-(2*pOn g wr+pMz v))
     case atStart=>exact⟨_,false,0,rfl,rfl,hPg,A1.out⟩
     case round=>
       obtain⟨u,b,z,rfl,hzb,hPu,hz⟩:=hrel
       have U0:=Lib.hid hz
       have HP:=Lib.hid hz.m.pOn
       have HS:=Lib.hid hPu
       have HZB:=Lib.hid hzb
       have hBu:=hPu.bd
       have hup:=hPu.p
       have tz:(z != 2) = !b:=by rw[bne,hzb]
       obtain⟨gl,y3,_⟩:=Ny.inc3 U0
       clear hz hPu hzb
       by_cases hlt:u.p<F.length
       ·have u1:(u.p:Int)<(F.length:Int):=by omega
        cases hc:comes F [110] u
        ·cases b
         ·replace tz:(z != 2)=true:=tz
          cases hp:pipeB F u
          ·have HG:=Lib.hid (HS.out.step hL (t:=leafP 17 u) (b':=false) (by unfold progC;simp only[hc,hp,hlt,Bool.and_false,if_true,if_false,Bool.false_eq_true]))
           go_wp2_with (first
             | (go_at_call 34
                with_reducible refine Ny.go E2 (one_q hF (k:=17) (by decide) (hBu.mono (by omega)) hlt) fun e3 E3=>?_)
             | (go_at_call 32
                with_reducible refine Ny.go E1 (pipe_q hF false hup hp) fun e2 E2=>?_)
             | (go_at_call 31
                with_reducible refine Ny.go U0 (next_q false hF hup [110] (by decide) hc) fun e1 E1=>?_)
             | fail)
           refine⟨⟨_,false,17,rfl,rfl,HG.out.1,E3.out⟩,?_⟩
           rw[E3.out.m.pOn,HP.out]
           have h1:=HG.out.2
           have h2:=HG.out.1.p
           have h3:=HZB.out
           unfold progM at h1
           simp only[pMz,h3]
           simp only[Bool.false_eq_true,if_true,if_false] at h1 ⊢
           first
             | omega
             | (rw[if_pos (show ((2:Int)==2)=true from rfl)];omega)
             | (cases b<;>simp only[Bool.false_eq_true,if_true,if_false] at h1 ⊢ <;> omega)
          ·have HG:=Lib.hid (HS.out.step hL (t:=nodeP 2 L u) (b':=true) (by unfold progC;simp only[hc,hp,Bool.not_false,Bool.true_and,Bool.and_self,if_true,if_false,Bool.false_eq_true]))
           go_wp2_with (first
             | (go_at_call 33
                with_reducible refine Ny.go E2 (list_q HLr (Nat.zero_le _) (hBu.mono (by omega)) hp) fun e3 E3=>?_)
             | (go_at_call 32
                with_reducible refine Ny.go E1 (pipe_q hF true hup hp) fun e2 E2=>?_)
             | (go_at_call 31
                with_reducible refine Ny.go U0 (next_q false hF hup [110] (by decide) hc) fun e1 E1=>?_)
             | fail)
           refine⟨⟨_,true,2,rfl,rfl,HG.out.1,E3.out⟩,?_⟩
           rw[E3.out.m.pOn,HP.out]
           have h1:=HG.out.2
           have h2:=HG.out.1.p
           have h3:=HZB.out
           unfold progM at h1
           simp only[pMz,h3]
           simp only[Bool.false_eq_true,if_true,if_false] at h1 ⊢
           first
             | omega
             | (rw[if_pos (show ((2:Int)==2)=true from rfl)];omega)
             | (cases b<;>simp only[Bool.false_eq_true,if_true,if_false] at h1 ⊢ <;> omega)
         ·replace tz:(z != 2)=false:=tz
          have HG:=Lib.hid (HS.out.step hL (t:=leafP 17 u) (b':=false) (by unfold progC;simp only[hc,hlt,Bool.not_true,Bool.false_and,if_true,if_false,Bool.false_eq_true]))
          go_wp2_with (first
            | (go_at_call 34
               with_reducible refine Ny.go E1 (one_q hF (k:=17) (by decide) (hBu.mono (by omega)) hlt) fun e3 E3=>?_)
            | (go_at_call 31
               with_reducible refine Ny.go U0 (next_q false hF hup [110] (by decide) hc) fun e1 E1=>?_)
            | fail)
          refine⟨⟨_,false,17,rfl,rfl,HG.out.1,E3.out⟩,?_⟩
          rw[E3.out.m.pOn,HP.out]
          have h1:=HG.out.2
          have h2:=HG.out.1.p
          have h3:=HZB.out
          unfold progM at h1
          simp only[pMz,h3]
          simp only[Bool.false_eq_true,if_true,if_false] at h1 ⊢
          first
            | omega
            | (rw[if_pos (show ((2:Int)==2)=true from rfl)];omega)
            | (cases b<;>simp only[Bool.false_eq_true,if_true,if_false] at h1 ⊢ <;> omega)
        ·clear tz
         have HG:=Lib.hid (HS.out.step hL (t:=nextP u) (b':=b) (by unfold progC;simp only[hc,if_true]))
         go_wp2_with (
           (go_at_call 31
            with_reducible refine Ny.inc U0 (by omega) (next_q true hF hup [110] (by decide) hc) fun e1 ge1 de1 ke1 ve1 E1=>?_))
         refine⟨⟨_,b,z,rfl,HZB.out,HG.out.1,E1.out⟩,?_⟩
         rw[E1.out.m.pOn,HP.out]
         have h1:=HG.out.2
         have h2:=HG.out.1.p
         have h3:=HZB.out
         unfold progM at h1
         simp only[pMz,h3]
         simp only[Bool.false_eq_true,if_true,if_false] at h1 ⊢
         first
           | omega
           | (rw[if_pos (show ((2:Int)==2)=true from rfl)];omega)
           | (cases b<;>simp only[Bool.false_eq_true,if_true,if_false] at h1 ⊢ <;> omega)
       ·have u1:¬(u.p:Int)<(F.length:Int):=by omega
        have HE:=Lib.hid (show f (inN 1 (ps0 0))=u by rw[←HT.out,←HS.out.t,prog_end hL hup hlt])
        clear tz
        go_wp2_with (
          (go_at_call 35
           with_reducible refine Ny.go (Ny.cast U0 HE.out) (end_q hF 1 f (by decide) hB0 HGE.out (by omega)) fun e9 E9=>?_
           obtain⟨lv,kb,ko⟩:=E9.out.m.w
           have d2:=kb.cell 2
           have H9:=Lib.hid (And.intro E9.out.f.hb ko)
           have gl9:=kb.lt
           clear kb ko))
        go_ret
        exact⟨_,rfl,own_base (by rw[HX.out];exact H9.out.2) hwg,HW.out.trans (H9.out.1.mono hwg)⟩
set_option maxHeartbeats 8000000 in
theorem rbegins_m (F:List Lf) (fv:Value) (w:World) (hF:FB F) (hR:Rd w w.heap.size 4 fv F.length (lfcs F)) (a:Nat) (ha:a<F.length) :
    Calls Tryz.prog 24 #[fv,.int .i64 (a:Int)] w fun e w'=>e=.returned (.bool (pipeB F (ps0 a)))∧Below w.heap.size w w':=by
  obtain⟨A,c,rfl⟩:=hR.formm
  have hn:=hF.n
  have HR:=Lib.hid hR
  clear hR
  go_enter Tryz.func24,Tryz.ntmps24
  go_wp2_with fail
  go_loopw [5,6] (fun sv iv wr=>∃k:Nat,k≤F.length∧iv=.int .i64 k∧sv=.string ⟨((sgs F).take k).toArray⟩∧Below w.heap.size w wr) (fun sv iv _=>F.length-(intOf iv).toNat)
  case atStart=>exact⟨0,Nat.zero_le _,rfl,rfl,Below.refl _ _⟩
  case round=>
    obtain⟨k,hk,rfl,rfl,hb⟩:=hrel
    by_cases hlt:k<F.length
    ·have u1:(k:Int)<(F.length:Int):=by omega
     have u2:(0:Int)≤(k:Int):=by omega
     obtain⟨x,hx⟩:∃x,F[k]? = some x:=⟨_,List.getElem?_eq_getElem hlt⟩
     have hxl:=hF.t x (List.mem_of_getElem? hx)
     obtain⟨g1,o1,rfl,y0,y1,y2,y3⟩:=lf_cells (HR.out.keep hb (Nat.le_refl _)) hx rfl
     have HS:=Lib.hid (show ByteArray.mk ((sgs F).take k).toArray++ByteArray.mk [sgnL x].toArray=⟨((sgs F).take (k+1)).toArray⟩ by rw[ba_append,sgs_take hx])
     have HB:=Lib.hid hb
     have hs9:=hb.size
     clear hb hx
     go_wp2_with (
       (go_at_call 29
        refine(rsign_m x _ (by omega)).mono ?_
        rintro e w2 ⟨rfl,hb2⟩
        have H2:=Lib.hid (HB.out.trans (hb2.mono hs9))
        clear hb2))
     exact⟨⟨k+1,by omega,by go_num,congrArg Value.string HS.out,H2.out⟩,by simp[intOf]<;>omega⟩
    ·obtain rfl:k=F.length:=by omega
     have HB:=Lib.hid hb
     rw[show (sgs F).take F.length=sgs F from List.take_of_length_le (by rw[sgs_len];exact Nat.le_refl _)]
     clear hb
     go_upto_region 7 with fail
     refine gen1 fun W0 hb0 k0 hs0=>?_
     obtain⟨g,hg⟩:∃g,g=wr.heap.size:=⟨_,rfl⟩
     rw[←hg] at k0 ⊢
     have hwg:w.heap.size≤g:=by rw[hg];exact HB.out.size
     have hBW:=HB.out.trans (hb0.mono HB.out.size)
     have M0:Nk g (.slice A F.length c) F (ps0 a) W0:=⟨⟨.slice none 0 0,k0,own_nil _ _ _ _⟩,(HR.out.keep hBW (Nat.le_refl _)).mono hwg⟩
     have H0:=Lib.hid (Ny.start M0)
     have HW:=Lib.hid hBW
     clear k0 hb0 hs0 M0 hg hBW
     have hB0:(ps0 a).p≤F.length:=Nat.le_of_lt ha
     go_wp2_with (
       (go_at_call 32
        with_reducible refine Ny.go H0 (pipe_q hF _ hB0 rfl) fun e1 E1=>?_))
     go_ret
     exact⟨rfl,HW.out.trans (E1.out.f.hb.mono hwg)⟩
set_option maxHeartbeats 8000000 in
theorem rcommand_m (F:List Lf) (fv:Value) (w:World) (hF:FB F) (hR:Rd w w.heap.size 4 fv F.length (lfcs F)) (a:Nat) (ha:a<F.length) (hb:pipeB F (ps0 a)=true) :
    Calls Tryz.prog 26 #[fv,.int .i64 (a:Int)] w fun e w'=>∃v,e=.returned (.tuple #[v,.int .i64 ((cmdT F a).p:Int)])∧w'.ownsRow w.heap.size 32 4 v (cmdT F a).l.length (ndcs (cmdT F a).l)∧Below w.heap.size w w':=by
  obtain⟨A,c,rfl⟩:=hR.formm
  have hn:=hF.n
  have HR:=Lib.hid hR
  clear hR
  go_enter Tryz.func26,Tryz.ntmps26
  go_wp2_with fail
  go_loopw [6,7] (fun sv iv wr=>∃k:Nat,k≤F.length∧iv=.int .i64 k∧sv=.string ⟨((sgs F).take k).toArray⟩∧Below w.heap.size w wr) (fun sv iv _=>F.length-(intOf iv).toNat)
  case atStart=>exact⟨0,Nat.zero_le _,rfl,rfl,Below.refl _ _⟩
  case round=>
    obtain⟨k,hk,rfl,rfl,hb⟩:=hrel
    by_cases hlt:k<F.length
    ·have u1:(k:Int)<(F.length:Int):=by omega
     have u2:(0:Int)≤(k:Int):=by omega
     obtain⟨x,hx⟩:∃x,F[k]? = some x:=⟨_,List.getElem?_eq_getElem hlt⟩
     have hxl:=hF.t x (List.mem_of_getElem? hx)
     obtain⟨g1,o1,rfl,y0,y1,y2,y3⟩:=lf_cells (HR.out.keep hb (Nat.le_refl _)) hx rfl
     have HS:=Lib.hid (show ByteArray.mk ((sgs F).take k).toArray++ByteArray.mk [sgnL x].toArray=⟨((sgs F).take (k+1)).toArray⟩ by rw[ba_append,sgs_take hx])
     have HB:=Lib.hid hb
     have hs9:=hb.size
     clear hb hx
     go_wp2_with (
       (go_at_call 29
        refine(rsign_m x _ (by omega)).mono ?_
        rintro e w2 ⟨rfl,hb2⟩
        have H2:=Lib.hid (HB.out.trans (hb2.mono hs9))
        clear hb2))
     exact⟨⟨k+1,by omega,by go_num,congrArg Value.string HS.out,H2.out⟩,by simp[intOf]<;>omega⟩
    ·obtain rfl:k=F.length:=by omega
     have HB:=Lib.hid hb
     rw[show (sgs F).take F.length=sgs F from List.take_of_length_le (by rw[sgs_len];exact Nat.le_refl _)]
     clear hb
     go_upto_region 7 with fail
     refine gen1 fun W0 hb0 k0 hs0=>?_
     obtain⟨g,hg⟩:∃g,g=wr.heap.size:=⟨_,rfl⟩
     rw[←hg] at k0 ⊢
     have hwg:w.heap.size≤g:=by rw[hg];exact HB.out.size
     have hBW:=HB.out.trans (hb0.mono HB.out.size)
     have M0:Nk g (.slice A F.length c) F (ps0 a) W0:=⟨⟨.slice none 0 0,k0,own_nil _ _ _ _⟩,(HR.out.keep hBW (Nat.le_refl _)).mono hwg⟩
     have H0:=Lib.hid (Ny.start M0)
     have HW:=Lib.hid hBW
     clear k0 hb0 hs0 M0 hg hBW
     have HLr:=list_r (g:=g) (fv:=.slice A F.length c) hF (F.length+1) 0 (by omega)
     have hL:=gd_lstF F (F.length+1)
     have hB0:Bd F 20 (ps0 a):=⟨Nat.le_of_lt ha,by show 0≤_;omega,by show 0≤200;omega⟩
     go_wp2_with (
       (go_at_call 45
        with_reducible refine Ny.go H0 (andor_q hF hL HLr (Nat.zero_le _) hB0 hb) fun e9 E9=>?_
        obtain⟨lv,kb,ko⟩:=E9.out.m.w
        have d2:=kb.cell 2
        have d3:=kb.cell 3
        have H9:=Lib.hid (And.intro E9.out.f.hb (And.intro (Below.refl w.heap.size w) ko))
        have gl9:=kb.lt
        clear kb ko))
     go_quiet (fail)
     go_wp2_with fail
     go_ret2
     exact⟨_,rfl,own_base H9.out.2.2 hwg,below_drewN' (HW.out.trans (H9.out.1.mono hwg)) _⟩
end Go.Proofs.YtokmnkmpdnlnaaaGreatDoor
