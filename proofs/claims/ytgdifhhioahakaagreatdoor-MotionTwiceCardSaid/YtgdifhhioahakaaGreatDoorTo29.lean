/- reparse.Tops: which nodes are top commands. -/
import Derived.Test.YtgdifhhioahakaaGreatDoorLv29
namespace Go.Proofs.YtgdifhhioahakaaGreatDoor
open Go.RowKit
set_option linter.unusedVariables false
set_option linter.unusedSimpArgs false
set_option maxRecDepth 100000
attribute [local go_sem] Oper.semAt_some
def topX (L:List Nd) (x:Nd):Bool:=match L[x.up.toNat]? with|some u=>u.kd==2&&u.up==0|none=>false
def topB (L:List Nd) (i:Nat):Bool:=match L[i]? with|some x=>x.kd==3&&decide (1≤x.up)&&decide (x.up<(L.length:Int))&&topX L x|none=>false
def topK (L:List Nd) (k:Nat):List Nat:=(List.range k).filter (topB L)
theorem filt_succ (p:Nat→Bool) (k:Nat):(List.range (k+1)).filter p=(List.range k).filter p++(if p k=true then [k] else []):=by
  rw[List.range_succ,List.filter_append]
  congr 1
  by_cases h:p k=true
  ·rw[if_pos h];simp[h]
  ·rw[if_neg h];simp[h]
theorem filt_pre (p:Nat→Bool) {k n:Nat} (h:k≤n):(List.range k).filter p<+:(List.range n).filter p:=by
  induction h with
  | refl=>exact List.prefix_refl _
  | step _ ih=>exact ih.trans ⟨_,(filt_succ p _).symm⟩
theorem filt_len (p:Nat→Bool) (k:Nat):((List.range k).filter p).length≤k:=by
  have:=List.length_filter_le p (List.range k)
  rwa [List.length_range] at this
theorem topB_at {L:List Nd} {i:Nat} {x:Nd} (h:L[i]? = some x):topB L i=(x.kd==3&&decide (1≤x.up)&&decide (x.up<(L.length:Int))&&topX L x):=by unfold topB;rw[h]
set_option maxHeartbeats 8000000 in
theorem tops_in (n l' bx c n₀:Nat) (L:List Nd) (A:Option Addr) (J Jx:(Nat→Prop)→List Nat→World→Prop) (hF:Fits J) (hY:YC l' (topK L L.length) n₀ (fun _=>False) J Jx) (hL:L.length≤90000) (W:World) (hBn:Bk W bx 59 #[.slice A L.length c]) (hB1:bx<n₀) (hR:Rd W n₀ 4 (.slice A L.length c) L.length (ndcs L)) (wn:n₀≤W.heap.size) (h0:J (fun _=>False) [] W) :
    CallsIn Fence.wide n Tryz.prog 104 #[.func (.yield l') #[] #[],.pointer (some ⟨bx,0,none⟩)] W fun e W'=>(∃v,e=.returned v)∧((∃xs X,xs=topK L L.length∧J X xs W')∨(∃pre X,True∧Jx X pre W')):=by
  have hd0:=D24.start (Xc:=fun _=>False) h0 (fun k hk=>hk.elim) wn
  have y0:W.cell? ⟨bx,0,none⟩=some (.slice A L.length c):=by rw[hBn.cell];rfl
  have HK:=Lib.hid (And.intro hY (And.intro hBn (And.intro hR hd0)))
  clear hY hBn hR hd0 h0
  refine callsIn_of_wp Tryz.func104 rfl trivial ?_ rfl
  simp only[Tryz.ntmps104,List.size_toArray,List.length_cons,List.length_nil,Nat.reduceAdd,Nat.reduceSub,Array.replicate_succ,Array.replicate_zero,List.push_toArray,List.append_toArray,List.nil_append,List.cons_append]
  gi_wp2_with fail
  clear y0
  gi_loopw [8] (fun i wr=>∃(k:Nat) (X:Nat→Prop),k≤L.length∧i=.int .i64 k∧D24 J W wr n₀ (fun _=>False) (fun _=>False) X (topK L k)) (fun i _=>L.length-(intOf i).toNat)
  case atStart=>exact⟨0,_,Nat.zero_le _,rfl,HK.out.2.2.2⟩
  case round=>
    obtain⟨k,X,hk,rfl,hd⟩:=hrel
    have hkb:Bk wr bx 59 #[.slice A L.length c]:=(hd.kx.same bx hB1 (fun h=>h)).trans HK.out.2.1
    have hbl:=hkb.lt
    by_cases hlt:k<L.length
    ·have u1:(k:Int)<(L.length:Int):=by omega
     have u2:(0:Int)≤(k:Int):=by omega
     obtain⟨x,hx⟩:∃x,L[k]? = some x:=⟨_,List.getElem?_eq_getElem hlt⟩
     obtain⟨g,o,rfl,hgl,hc⟩:=rd_sat ndc_len HK.out.2.2.1 hx rfl
     have hgw:g<wr.heap.size:=by have:=hd.kx.size;omega
     obtain⟨K,hK⟩:∃K:Int,K=(x.kd:Int):=⟨_,rfl⟩
     obtain⟨up,hup⟩:∃up:Int,up=x.up:=⟨_,rfl⟩
     have z0:wr.cell? ⟨g,o+k*4,none⟩=some (.int .i64 K):=by rw[hK];exact(hd.kx.cell hgl (fun h=>h) _).trans (hc 0 _ rfl)
     have z1:wr.cell? ⟨g,o+k*4+1,none⟩=some (.int .i64 (x.fr:Int)):=(hd.kx.cell hgl (fun h=>h) _).trans (hc 1 _ rfl)
     have z2:wr.cell? ⟨g,o+k*4+2,none⟩=some (.int .i64 (x.tt:Int)):=(hd.kx.cell hgl (fun h=>h) _).trans (hc 2 _ rfl)
     have z3:wr.cell? ⟨g,o+k*4+3,none⟩=some (.int .i64 up):=by rw[hup];exact(hd.kx.cell hgl (fun h=>h) _).trans (hc 3 _ rfl)
     have z4:wr.cell? ⟨bx,0,none⟩=some (.slice (some ⟨g,o,none⟩) L.length c):=by rw[hkb.cell];rfl
     have hsuc:=filt_succ (topB L) k
     have htb:=topB_at hx
     rw[←hup] at htb
     have hpre:=filt_pre (topB L) (k:=k+1) (n:=L.length) (by omega)
     obtain⟨wo,hwo⟩:∃wo:World,wo=wr.alloc (.cells #[.int .i64 K,.int .i64 (x.fr:Int),.int .i64 (x.tt:Int),.int .i64 up] 76):=⟨_,rfl⟩
     have hbo:Below wr.heap.size wr wo:=by rw[hwo];exact(Below.refl _ _).alloc (Nat.le_refl _) _
     have hdo:=hd.below hF hbo
     by_cases h3:x.kd=3∧1≤up∧up<(L.length:Int)
     ·obtain⟨h3,h1,hul⟩:=h3
      obtain rfl:K=3:=by omega
      have t2:decide (up<1)=false:=by simp;omega
      have t3:decide ((L.length:Int)≤up)=false:=by simp;omega
      obtain⟨u,hu⟩:∃u:Nat,up=(u:Int):=⟨up.toNat,by omega⟩
      obtain⟨y,hy⟩:∃y,L[u]? = some y:=⟨_,List.getElem?_eq_getElem (by omega)⟩
      obtain⟨_,_,he,_,hc2⟩:=rd_sat ndc_len HK.out.2.2.1 hy rfl
      cases he
      have htx:topX L x=(y.kd==2&&y.up==0):=by unfold topX;rw[←hup,hu,Int.toNat_natCast,hy]
      rw[htx,show (x.kd==3)=true by simp[h3],show decide (1≤up)=true by simpa using h1,show decide (up<(L.length:Int))=true by simpa using hul] at htb
      simp only[Bool.true_and] at htb
      obtain⟨K2,hK2⟩:∃K2:Int,K2=(y.kd:Int):=⟨_,rfl⟩
      obtain⟨U2,hU2⟩:∃U2:Int,U2=y.up:=⟨_,rfl⟩
      have x0:wr.cell? ⟨g,o+u*4,none⟩=some (.int .i64 K2):=by rw[hK2];exact(hd.kx.cell hgl (fun h=>h) _).trans (hc2 0 _ rfl)
      have x1:wr.cell? ⟨g,o+u*4+1,none⟩=some (.int .i64 (y.fr:Int)):=(hd.kx.cell hgl (fun h=>h) _).trans (hc2 1 _ rfl)
      have x2:wr.cell? ⟨g,o+u*4+2,none⟩=some (.int .i64 (y.tt:Int)):=(hd.kx.cell hgl (fun h=>h) _).trans (hc2 2 _ rfl)
      have x3:wr.cell? ⟨g,o+u*4+3,none⟩=some (.int .i64 U2):=by rw[hU2];exact(hd.kx.cell hgl (fun h=>h) _).trans (hc2 3 _ rfl)
      have u3:(u:Int)<(L.length:Int):=by omega
      have u4:(0:Int)≤(u:Int):=by omega
      subst hu
      obtain⟨w2,hw2⟩:∃w2:World,w2=wo.alloc (.cells #[.int .i64 K2,.int .i64 (y.fr:Int),.int .i64 (y.tt:Int),.int .i64 U2] 76):=⟨_,rfl⟩
      have hb2:Below wo.heap.size wo w2:=by rw[hw2];exact(Below.refl _ _).alloc (Nat.le_refl _) _
      have hd2:=hdo.below hF hb2
      rw[hwo] at hw2
      by_cases hyes:y.kd=2∧y.up=0
      ·obtain rfl:K2=2:=by omega
       obtain rfl:U2=0:=by omega
       rw[show (y.kd==2&&y.up==0)=true by simp[hyes.1,hyes.2]] at htb
       rw[if_pos htb] at hsuc
       rw[hsuc] at hpre
       obtain⟨fn,tmps,assign,body,hyy,hRR⟩:=HK.out.1 _ _ k w2 hd2.j hpre (n-1)
       have hR2:=Lib.hid hRR
       simp only[encC] at hyy
       rw[hw2] at hyy
       have hy2:=Lib.hid hyy
       have HX:=Lib.hid (And.intro hsuc hd2)
       clear hRR hyy hpre hsuc hd2 hdo hd hb2 hbo hc hc2 htb htx hyes hK2 hU2 hy hx hkb hK hup h3 hwo
       gi_wp2_with fail
       rw[hy2.out]
       gi_wp2_with fail
       refine⟨fun h=>by simp[Fence.wide] at h,?_⟩
       rw[←hw2]
       refine hR2.out.mono ?_
       rintro e W3 (⟨rfl,hJ3,hk3,hx3⟩|⟨rfl,hJx3,hk3,hx3⟩)
       ·have H3:=Lib.hid (HX.out.2.next hJ3 hk3 hx3)
        clear hJ3 hk3 hx3
        gi_wp2_with fail
        exact⟨⟨k+1,_,by omega,by go_num,by unfold topK;rw[HX.out.1];exact H3.out⟩,by simp[intOf];omega⟩
       ·have H3:=Lib.hid hJx3
        clear hJx3 hk3 hx3
        gi_wp2_with fail
        refine bodyPost_ret (results_none rfl _ _ _) rfl ?_
        exact⟨⟨_,rfl⟩,.inr ⟨_,_,trivial,H3.out⟩⟩
      ·have hno:(y.kd==2&&y.up==0)=false:=by
         rw[Bool.and_eq_false_iff]
         by_cases h:y.kd=2
         ·exact .inr (beq_false_of_ne (fun e=>hyes ⟨h,e⟩))
         ·exact .inl (beq_false_of_ne h)
       rw[hno] at htb
       rw[if_neg (by rw[htb];decide),List.append_nil] at hsuc
       have HX:=Lib.hid (And.intro hsuc hd2)
       have hw3:(K2==2)=false∨(K2=2∧(U2==0)=false):=by
         by_cases h:y.kd=2
         ·exact .inr ⟨by omega,beq_false_of_ne (fun e=>hyes ⟨h,by omega⟩)⟩
         ·exact .inl (beq_false_of_ne (by omega))
       clear hpre hsuc hd2 hdo hd hb2 hbo hc hc2 htb htx hyes hno hK2 hU2 hy hx hkb hK hup h3 hwo
       rcases hw3 with h|⟨rfl,h⟩
       all_goals (
         gi_wp2_with (first
           | ((with_reducible refine⟨fun f h=>?_,?_⟩);cases h))
         rw[←hw2]
         exact⟨⟨k+1,_,by omega,by go_num,by unfold topK;rw[HX.out.1];exact HX.out.2⟩,by simp[intOf];omega⟩)
     ·have hno:topB L k=false:=by
        rw[htb]
        by_cases h:x.kd=3
        ·by_cases h':1≤up
         ·rw[show decide (up<(L.length:Int))=false from decide_eq_false (fun e=>h3 ⟨h,h',e⟩)]
          simp
         ·rw[show decide (1≤up)=false from decide_eq_false h']
          simp
        ·rw[show (x.kd==3)=false from beq_false_of_ne h]
         rfl
      rw[if_neg (by rw[hno];decide),List.append_nil] at hsuc
      have HX:=Lib.hid (And.intro hsuc hdo)
      have hw3:(K != 3)=true∨(K=3∧decide (up<1)=true)∨(K=3∧decide (up<1)=false∧decide ((L.length:Int)≤up)=true):=by
        by_cases h:x.kd=3
        ·obtain rfl:K=3:=by omega
         by_cases h':1≤up
         ·exact .inr (.inr ⟨rfl,by simp;omega,by simp;exact Int.not_lt.1 (fun e=>h3 ⟨h,h',e⟩)⟩)
         ·exact .inr (.inl ⟨rfl,by simp;omega⟩)
        ·exact .inl (by simp;omega)
      clear hpre hsuc hdo hd hbo hc htb hno hK hup hx hkb h3
      rcases hw3 with h|⟨rfl,h⟩|⟨rfl,h,h'⟩
      all_goals (
        gi_wp2_with fail
        rw[←hwo]
        exact⟨⟨k+1,_,by omega,by go_num,by unfold topK;rw[HX.out.1];exact HX.out.2⟩,by simp[intOf];omega⟩)
    ·obtain rfl:k=L.length:=by omega
     have HE:=Lib.hid hd
     clear hd hkb
     gi_wp2_with fail
     go_end0
     exact⟨⟨_,rfl⟩,.inl ⟨X,HE.out.j⟩⟩
end Go.Proofs.YtgdifhhioahakaaGreatDoor
namespace Go.Proofs.YtgdifhhioahakaaGreatDoor
open Go.RowKit
set_option linter.unusedVariables false
set_option linter.unusedSimpArgs false
set_option maxRecDepth 100000
attribute [local go_sem] Oper.semAt_some
theorem tops_p (A:Option Addr) (n c:Nat) (w:World) :
    Calls Tryz.prog 81 #[.slice A n c] w fun e w'=>e=.returned (.func (.func 104) #[] #[.pointer (some ⟨w.heap.size,0,none⟩)])∧w'=w.alloc (.cells #[.slice A n c] 59):=by
  go_enter Tryz.func81,Tryz.ntmps81
  go_wp2
  go_ret
  exact⟨rfl,rfl⟩
theorem tops_it (L:List Nd) (hL:L.length≤90000) (A:Option Addr) (c:Nat) (w:World) (hR:Rd w w.heap.size 4 (.slice A L.length c) L.length (ndcs L)) :
    Calls Tryz.prog 81 #[.slice A L.length c] w fun e w'=>∃gf lb,e=.returned (.func (.func gf) #[] lb)∧IterI gf lb (topK L L.length) w'∧Below w.heap.size w w':=by
  refine(tops_p _ _ _ w).mono ?_
  rintro e w' ⟨rfl,hw⟩
  have hs:w'.heap.size=w.heap.size+1:=by rw[hw];simp
  have k1:Bk w' w.heap.size 59 #[.slice A L.length c]:=by rw[hw];exact Bk.new w _ _
  have hbw:Below w.heap.size w w':=by rw[hw];exact(Below.refl _ w).alloc (Nat.le_refl _) _
  refine⟨_,_,rfl,⟨enters_of Tryz.func104 (by kernel_rfl) rfl,fun W0 hW0=>?_⟩,hbw⟩
  intro n l' J Jx W hW hF _ hY hJ
  have hb:=hW0.trans (hW.mono hW0.size)
  refine tops_in n l' _ c w'.heap.size L A J Jx hF hY hL W (k1.below hb k1.lt) (by omega) ?_ hb.size hJ
  exact((hR.keep hbw (Nat.le_refl _)).keep (hb.mono (by omega)) (Nat.le_refl _)).mono (by omega)
theorem Tops_m (L:List Nd) (hL:L.length≤90000) (A:Option Addr) (c:Nat) (w:World) (hR:Rd w w.heap.size 4 (.slice A L.length c) L.length (ndcs L)) :
    Calls Tryz.prog 64 #[.slice A L.length c] w fun e w'=>∃v,e=.returned v∧w'.ownsRow w.heap.size 3 1 v (topK L L.length).length (ics (topK L L.length))∧Below w.heap.size w w':=by
  have hn:=filt_len (topB L) L.length
  have H:=Lib.hid (And.intro (tops_it L hL A c w hR) (fun gf lb w2 hI=>collectI29 gf lb (topK L L.length) w2 (by unfold topK;omega) hI))
  clear hR hn
  go_enter Tryz.func64,Tryz.ntmps64
  go_wp2_with (first
    | (go_at_call 81
       refine H.out.1.mono ?_
       rintro e w2 ⟨gf,lb,rfl,h1,h2⟩
       have H1:=Lib.hid (And.intro h1 h2)
       clear h1 h2)
    | (go_at_call 21
       refine(H.out.2 _ _ _ H1.out.1).mono ?_
       rintro e w3 ⟨v,rfl,h1,h2⟩
       have H2:=Lib.hid (And.intro h1 h2)
       clear h1 h2))
  go_ret
  exact⟨_,rfl,own_base H2.out.1 H1.out.2.size,H1.out.2.trans (H2.out.2.mono H1.out.2.size)⟩
end Go.Proofs.YtgdifhhioahakaaGreatDoor
