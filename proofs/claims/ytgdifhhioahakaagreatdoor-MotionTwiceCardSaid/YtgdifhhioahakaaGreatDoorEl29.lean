/- tree.Kids: the nodes right below one. -/
import Derived.Test.YtgdifhhioahakaaGreatDoorTo29
import Derived.Test.YtgdifhhioahakaaGreatDoorQc13
namespace Go.Proofs.YtgdifhhioahakaaGreatDoor
open Go.RowKit
set_option linter.unusedVariables false
set_option linter.unusedSimpArgs false
set_option maxRecDepth 100000
attribute [local go_sem] Oper.semAt_some
def kidB (L:List Nd) (i k:Nat):Bool:=match L[k]? with|some x=>x.up==(i:Int)|none=>false
def kidK (L:List Nd) (i k:Nat):List Nat:=(List.range k).filter (kidB L i)
theorem is_m (i n c:Nat) (A:Option Addr) (h:i<n) (hn:n≤100000) (w:World):Calls Tryz.prog 78 #[.slice A n c,.int .i64 (i:Int)] w fun e w'=>e=.returned (.bool true)∧w'=w:=by
  have u1:(i:Int)<(n:Int):=by omega
  have u2:(0:Int)≤(i:Int):=by omega
  go_enter Tryz.func78,Tryz.ntmps78
  go_wp2
  go_ret
  exact⟨rfl,rfl⟩
set_option maxHeartbeats 4000000 in
theorem Kids_m (L:List Nd) (hL:L.length≤90000) (A:Option Addr) (c i:Nat) (hi:i<L.length) (w:World) (hR:Rd w w.heap.size 4 (.slice A L.length c) L.length (ndcs L)) :
    Calls Tryz.prog 58 #[.slice A L.length c,.int .i64 (i:Int)] w fun e w'=>∃v,e=.returned v∧w'.ownsRow w.heap.size 3 1 v (kidK L i L.length).length (ics (kidK L i L.length))∧Below w.heap.size w w':=by
  obtain⟨i0,hi0,hz0,hz1,hz2⟩:=info_parts Tryz.infoInt29
  have H:=Lib.hid (And.intro hR (fun W=>is_m i L.length c A hi (by omega) W))
  clear hR
  go_enter Tryz.func58,Tryz.ntmps58
  go_wp2_with (
    (go_at_call 78
     refine(H.out.2 _).mono ?_
     rintro e w2 ⟨rfl,h2⟩
     obtain rfl:=h2.symm
     have H2:=Lib.hid (Below.refl w.heap.size w)))
  go_loopw [4,13] (fun o j wr=>∃k:Nat,k≤L.length∧j=.int .i64 k∧wr.ownsRow w.heap.size 3 1 o (kidK L i k).length (ics (kidK L i k))∧Below w.heap.size w wr) (fun o j _=>L.length-(intOf j).toNat)
  case atStart=>exact⟨0,Nat.zero_le _,rfl,World.ownsRow_nil _ _ _ _,H2.out⟩
  case round=>
    obtain⟨k,hk,rfl,ho,hb⟩:=hrel
    by_cases hlt:k<L.length
    ·obtain⟨x,hx⟩:∃x,L[k]? = some x:=⟨_,List.getElem?_eq_getElem hlt⟩
     have hsz:=hb.size
     obtain⟨g,o,rfl,hg,hc⟩:=rd_sat ndc_len (H.out.1.keep hb (Nat.le_refl _)) hx rfl
     obtain⟨K,hK⟩:∃K:Int,K=(x.kd:Int):=⟨_,rfl⟩
     obtain⟨up,hup⟩:∃up:Int,up=x.up:=⟨_,rfl⟩
     have z0:wr.cell? ⟨g,o+k*4,none⟩=some (.int .i64 K):=by rw[hK];exact hc 0 _ rfl
     have z1:wr.cell? ⟨g,o+k*4+1,none⟩=some (.int .i64 (x.fr:Int)):=hc 1 _ rfl
     have z2:wr.cell? ⟨g,o+k*4+2,none⟩=some (.int .i64 (x.tt:Int)):=hc 2 _ rfl
     have z3:wr.cell? ⟨g,o+k*4+3,none⟩=some (.int .i64 up):=by rw[hup];exact hc 3 _ rfl
     have u1:(k:Int)<(L.length:Int):=by omega
     have u2:(0:Int)≤(k:Int):=by omega
     have hsuc:=filt_succ (kidB L i) k
     have hkb:kidB L i k=(up==(i:Int)):=by unfold kidB;rw[hx,hup]
     have hlen:=filt_len (kidB L i) k
     have hkk:(kidK L i k).length≤k:=hlen
     obtain⟨A2,n2,c2,rfl⟩:=own_form' ho
     obtain rfl:=own_len ho
     have HP:=Lib.hid (And.intro ho (And.intro hb hsuc))
     clear hc hx hK hup ho hb hsuc hlen
     cases ht:(up==(i:Int))
     case' false=>
       rw[ht] at hkb
       have HB:=Lib.hid hkb
       clear hkb
       go_wp2_with fail
       refine⟨⟨k+1,by omega,by go_num,?_,HP.out.2.1.alloc hsz _⟩,by simp[intOf];omega⟩
       unfold kidK
       rw[HP.out.2.2,if_neg (by rw[HB.out];decide),List.append_nil]
       exact HP.out.1.alloc _
     case' true=>
       rw[ht] at hkb
       have HB:=Lib.hid hkb
       clear hkb
       go_upto_region 7 with fail
       refine gen1 fun W hbW hkW hsW=>?_
       have hoW:=own_below HP.out.1 hbW
       have hbw:=HP.out.2.1.trans (hbW.mono hsz)
       have HW:=Lib.hid (And.intro hoW hbw)
       have hszw:=hbw.size
       clear hoW hbw hbW hkW hsW z0 z1 z2 z3
       go_wp2_with (first
         | (at_builtin
            refine wpList_append_rd rfl (.tmp 22) (.tmp 24) 37 rfl w.heap.size 3 i0 _ 1 8 Tryz.underlying37 hi0 hz0 hz1 hz2 rfl (by decide) (.slice A2 (kidK L i k).length c2) (kidK L i k).length (ics (kidK L i k)) rfl (HW.out.1.alloc _) (.slice (some ⟨W.heap.size,0,none⟩) 1 1) 1 (W.heap.size+1) (ics [k]) rfl (rd_new W (ics [k]) 3 1 1 rfl (by omega)) (one_ic _) (by unfold maxLen;omega) (by omega) (by rw[World.size_alloc];omega) ?_
            intro v6 w6 hown6 hg6 hv6
            have hbel6:Below w.heap.size w w6:=(HW.out.2.alloc hszw _).grown hg6 (by rw[World.size_alloc];omega) (fun j hj=>(HW.out.1.lt j hj).1)
            have H6:=Lib.hid (And.intro hown6 hbel6)
            clear hown6 hg6 hv6 hbel6))
       refine⟨⟨k+1,by omega,by go_num,?_,H6.out.2⟩,by simp[intOf];omega⟩
       unfold kidK
       rw[HP.out.2.2,if_pos HB.out]
       have h:=H6.out.1
       rw[←ics_snoc,show (kidK L i k).length+1=(kidK L i k++[k]).length by simp] at h
       exact h
    ·obtain rfl:k=L.length:=by omega
     have HE:=Lib.hid (And.intro ho hb)
     clear ho hb
     go_wp2_with fail
     go_ret
     exact⟨_,rfl,HE.out⟩
end Go.Proofs.YtgdifhhioahakaaGreatDoor
namespace Go.Proofs.YtgdifhhioahakaaGreatDoor
open Go.RowKit
set_option linter.unusedVariables false
set_option linter.unusedSimpArgs false
set_option maxRecDepth 100000
attribute [local go_sem] Oper.semAt_some
def endC (k:Nat):UInt8:=if k=9 then 125 else if k=10 then 41 else if k=11 then 102 else if k=12∨k=13 then 103 else if k=14 then 122 else 0
theorem ender_m (k:Nat) (w:World):Calls Tryz.prog 35 #[.int .i64 (k:Int)] w fun e w'=>e=.returned (.int .u8 ((endC k).toNat:Int))∧w'=w:=by
  have key:k=9∨k=10∨k=11∨k=12∨k=13∨k=14∨(((k:Int)==9)=false∧((k:Int)==10)=false∧((k:Int)==11)=false∧((k:Int)==12)=false∧((k:Int)==13)=false∧((k:Int)==14)=false∧endC k=0):=by
    by_cases h1:k=9
    ·exact .inl h1
    by_cases h2:k=10
    ·exact .inr (.inl h2)
    by_cases h3:k=11
    ·exact .inr (.inr (.inl h3))
    by_cases h4:k=12
    ·exact .inr (.inr (.inr (.inl h4)))
    by_cases h5:k=13
    ·exact .inr (.inr (.inr (.inr (.inl h5))))
    by_cases h6:k=14
    ·exact .inr (.inr (.inr (.inr (.inr (.inl h6)))))
    ·exact .inr (.inr (.inr (.inr (.inr (.inr ⟨beq_false_of_ne (by omega),beq_false_of_ne (by omega),beq_false_of_ne (by omega),beq_false_of_ne (by omega),beq_false_of_ne (by omega),beq_false_of_ne (by omega),by unfold endC;simp[h1,h2,h3,h4,h5,h6]⟩)))))
  rcases key with rfl|rfl|rfl|rfl|rfl|rfl|⟨t1,t2,t3,t4,t5,t6,hE⟩
  all_goals (
    go_enter Tryz.func35,Tryz.ntmps35
    go_wp2
    go_ret)
  all_goals first
    | exact⟨rfl,rfl⟩
    | exact⟨by rw[hE];rfl,rfl⟩
def sgnAt (F:List Lf) (p:Nat):UInt8:=match F[p]? with|some y=>sgnL y|none=>0
def scanF (F:List Lf) (sg:UInt8) (fo:Int) (a e:Nat):Int:=(List.range' a (e-a)).foldl (fun fo p=>if (sgnAt F p==sg)=true then (p:Int) else fo) fo
theorem scanF_succ (F:List Lf) (sg:UInt8) (fo:Int) {a p:Nat} (h:a≤p):scanF F sg fo a (p+1)=if (sgnAt F p==sg)=true then (p:Int) else scanF F sg fo a p:=by
  unfold scanF
  rw[show p+1-a=(p-a)+1 by omega,List.range'_1_concat,List.foldl_append,show a+(p-a)=p by omega]
  rfl
theorem scanF_nil (F:List Lf) (sg:UInt8) (fo:Int) {a e:Nat} (h:e≤a):scanF F sg fo a e=fo:=by
  unfold scanF
  rw[show e-a=0 by omega]
  rfl
def ndAt (L:List Nd) (k:Nat):Nat×Nat:=match L[k]? with|some x=>(x.fr,x.tt)|none=>(0,0)
def segS (L:List Nd) (i:Nat) (x:Nd):List (Nat×Nat):=(kidK L i L.length).map (ndAt L)++[(x.tt,x.tt)]
def lastS (F:List Lf) (sg:UInt8) (s:Int×Nat) (G:List (Nat×Nat)):Int×Nat:=G.foldl (fun s g=>(scanF F sg s.1 s.2 g.1,g.2)) s
def lastL (F:List Lf) (L:List Nd) (i:Nat) (x:Nd):Int:=(lastS F (endC x.kd) (-1,x.fr) (segS L i x)).1
theorem lastS_take (F:List Lf) (sg:UInt8) (s:Int×Nat) {G:List (Nat×Nat)} {j:Nat} {g:Nat×Nat} (h:G[j]? = some g):lastS F sg s (G.take (j+1))=(scanF F sg (lastS F sg s (G.take j)).1 (lastS F sg s (G.take j)).2 g.1,g.2):=by
  unfold lastS
  rw[List.take_add_one,h,List.foldl_append]
  rfl
structure FL (F:List Lf) (L:List Nd):Prop where
  fn:F.length≤900
  ln:L.length≤90000
  nd:∀x∈L,x.fr≤F.length∧x.tt≤F.length
  tx:∀y∈F,y.tx.length≤900
set_option maxHeartbeats 8000000 in
theorem lastk_m (F:List Lf) (L:List Nd) (hFL:FL F L) (A1 A2:Option Addr) (c1 c2 i:Nat) (x:Nd) (hx:L[i]? = some x) (w:World) (hF:Rd w w.heap.size 4 (.slice A1 F.length c1) F.length (lfcs F)) (hR:Rd w w.heap.size 4 (.slice A2 L.length c2) L.length (ndcs L)) :
    Calls Tryz.prog 36 #[.slice A1 F.length c1,.slice A2 L.length c2,.int .i64 (i:Int)] w fun e w'=>e=.returned (.int .i64 (lastL F L i x))∧Below w.heap.size w w':=by
  obtain⟨i0,hi0,hz0,hz1,hz2⟩:=info_parts Tryz.infoInt29
  have hil:=(List.getElem?_eq_some_iff.1 hx).1
  have hK:=fun W (hR:Rd W W.heap.size 4 (.slice A2 L.length c2) L.length (ndcs L))=>Kids_m L hFL.ln A2 c2 i hil W hR
  have hkl:(kidK L i L.length).length≤90000:=Nat.le_trans (filt_len _ _) hFL.ln
  have hkm:∀k∈kidK L i L.length,k<L.length:=fun k hk=>by
    unfold kidK at hk
    exact List.mem_range.1 (List.mem_filter.1 hk).1
  unfold lastL segS
  obtain⟨K,hKe⟩:∃K,K=kidK L i L.length:=⟨_,rfl⟩
  rw[←hKe] at hK hkl hkm ⊢
  obtain⟨sg,hsg⟩:∃sg,sg=endC x.kd:=⟨_,rfl⟩
  rw[←hsg]
  obtain⟨G,hG⟩:∃G,G=K.map (ndAt L)++[(x.tt,x.tt)]:=⟨_,rfl⟩
  rw[←hG]
  have hE:=fun W=>ender_m x.kd W
  rw[←hsg] at hE
  have hxm:=hFL.nd x (List.mem_of_getElem? hx)
  obtain⟨g2,o2,rfl,hg2,hc2⟩:=rd_sat ndc_len hR hx rfl
  have z0:w.cell? ⟨g2,o2+i*4,none⟩=some (.int .i64 (x.kd:Int)):=hc2 0 _ rfl
  have z1:w.cell? ⟨g2,o2+i*4+1,none⟩=some (.int .i64 (x.fr:Int)):=hc2 1 _ rfl
  have u1:(i:Int)<(L.length:Int):=by omega
  have u2:(0:Int)≤(i:Int):=by omega
  have H:=Lib.hid (And.intro hF (And.intro hR (And.intro hK (And.intro hE (And.intro hkm (And.intro hG (And.intro hx hFL)))))))
  have hf9:=hFL.fn
  have hl9:=hFL.ln
  clear hF hR hK hE hkm hG hx hc2 hKe hsg hFL
  go_enter Tryz.func36,Tryz.ntmps36
  go_wp2_with (first
    | (go_at_call 35
       refine(H.out.2.2.2.1 _).mono ?_
       rintro e w2 ⟨rfl,h2⟩
       obtain rfl:=h2.symm
       clear h2)
    | (go_at_call 58
       refine(H.out.2.2.1 _ H.out.2.1).mono ?_
       rintro e w3 ⟨v3,rfl,h1,h2⟩
       obtain⟨A3,n3,c3,rfl⟩:=own_form' h1
       obtain rfl:=own_len h1
       have hsz3:=h2.size
       have H3:=Lib.hid (And.intro h1 h2)
       clear h1 h2)
    | (at_builtin
       refine wpList_append_rd rfl (.tmp 27) (.tmp 28) 37 rfl w.heap.size 3 i0 _ 1 8 Tryz.underlying37 hi0 hz0 hz1 hz2 rfl (by decide) (.slice A3 K.length c3) K.length (ics K) rfl (H3.out.1.alloc _) (.slice (some ⟨w3.heap.size,0,none⟩) 1 1) 1 (w3.heap.size+1) [.int .i64 (-1)] rfl (rd_new w3 [.int .i64 (-1)] 3 1 1 rfl (by omega)) (by simp[Value.oneCell']) (by unfold maxLen;omega) (by omega) (by rw[World.size_alloc];omega) ?_
       intro v4 w4 hown4 hg4 hv4
       obtain⟨A4,n4,c4,rfl⟩:=own_form' hown4
       obtain rfl:=own_len hown4
       obtain⟨g4,rfl⟩:=own_at hown4 (by omega)
       have hb4:Below w.heap.size w w4:=(H3.out.2.alloc hsz3 _).grown hg4 (by rw[World.size_alloc];omega) (fun j hj=>(H3.out.1.lt j hj).1)
       have hsz4:=hb4.size
       have H4:=Lib.hid (And.intro hown4 hb4)
       clear hown4 hg4 hv4 hb4))
  go_loopw [8,9,31] (fun fo at_ j wr=>∃m:Nat,m≤K.length+1∧j=.int .i64 m∧fo=.int .i64 (lastS F sg (-1,x.fr) (G.take m)).1∧at_=.int .i64 ((lastS F sg (-1,x.fr) (G.take m)).2:Int)∧wr.ownsRow w.heap.size 3 1 (.slice (some ⟨g4,0,none⟩) (K.length+1) c4) (K.length+1) (ics K++[.int .i64 (-1)])∧Below w.heap.size w wr) (fun fo at_ j _=>K.length+1-(intOf j).toNat)
  case atStart=>exact⟨0,Nat.zero_le _,rfl,rfl,rfl,H4.out⟩
  case round=>
    obtain⟨m,hm,rfl,rfl,rfl,ho,hb⟩:=hrel
    obtain⟨s,hs⟩:∃s,s=lastS F sg (-1,x.fr) (G.take m):=⟨_,rfl⟩
    rw[←hs]
    obtain⟨f0,a0⟩:=s
    have hsz:=hb.size
    by_cases hlt:m<K.length+1
    ·have key:∃(kv:Int) (e nx:Nat),(ics K++[.int .i64 (-1)])[m]? = some (.int .i64 kv)∧G[m]? = some (e,nx)∧e≤F.length∧nx≤F.length∧((kv = -1∧e=x.tt∧nx=x.tt)∨(∃k:Nat,kv=(k:Int)∧k<L.length∧wr.cell? ⟨g2,o2+k*4+1,none⟩=some (.int .i64 (e:Int))∧wr.cell? ⟨g2,o2+k*4+2,none⟩=some (.int .i64 (nx:Int)))):=by
       obtain⟨hF,hR,hK,hE,hkm,hG,hx,hFL⟩:=H.out
       have il:(ics K).length=K.length:=by simp[ics]
       rw[hG]
       by_cases h:m<K.length
       ·obtain⟨k,hk⟩:∃k,K[m]? = some k:=⟨_,List.getElem?_eq_getElem h⟩
        have hkl:=hkm k (List.mem_of_getElem? hk)
        obtain⟨y,hy⟩:∃y,L[k]? = some y:=⟨_,List.getElem?_eq_getElem hkl⟩
        have hn:=hFL.nd y (List.mem_of_getElem? hy)
        obtain⟨_,_,he,_,hc⟩:=rd_sat ndc_len (hR.keep hb (Nat.le_refl _)) hy rfl
        cases he
        refine⟨k,y.fr,y.tt,?_,?_,hn.1,hn.2,.inr ⟨k,rfl,hkl,hc 1 _ rfl,hc 2 _ rfl⟩⟩
        ·rw[List.getElem?_append_left (by omega)];unfold ics;rw[List.getElem?_map,hk];rfl
        ·rw[List.getElem?_append_left (by simpa using h),List.getElem?_map,hk];unfold ndAt;simp[hy]
       ·obtain rfl:m=K.length:=by omega
        refine⟨-1,x.tt,x.tt,?_,?_,hxm.2,hxm.2,.inl ⟨rfl,rfl,rfl⟩⟩
        ·rw[List.getElem?_append_right (by omega),il];simp
        ·rw[List.getElem?_append_right (by simp)];simp
     obtain⟨_,_,he0,_,hc0⟩:=rd_sat ndc_len (H.out.2.1.keep hb (Nat.le_refl _)) H.out.2.2.2.2.2.2.1 rfl
     cases he0
     obtain⟨tt,htt⟩:∃tt:Nat,tt=x.tt:=⟨_,rfl⟩
     rw[←htt] at key hxm
     have z2:wr.cell? ⟨g2,o2+i*4+2,none⟩=some (.int .i64 (tt:Int)):=by rw[htt];exact hc0 2 _ rfl
     obtain⟨kv,e,nx,hk1,hk2,hel,hnl,hway⟩:=key
     have y0:=own_cell ho _ _ hk1
     have htk:=lastS_take F sg (-1,x.fr) hk2
     rw[←hs] at htk
     have u5:(m:Int)<(K.length:Int)+1:=by omega
     have u6:(0:Int)≤(m:Int):=by omega
     have HB:=Lib.hid (And.intro ho (And.intro hb htk))
     have hway2:(kv = -1∧e=tt∧e=nx)∨(∃k:Nat,kv=(k:Int)∧(k:Int)<(L.length:Int)∧(0:Int)≤(k:Int)∧wr.cell? ⟨g2,o2+k*4+1,none⟩=some (.int .i64 (e:Int))∧wr.cell? ⟨g2,o2+k*4+2,none⟩=some (.int .i64 (nx:Int))):=by
       rcases hway with ⟨h1,h2,h3⟩|⟨k,h1,h2,h3,h4⟩
       ·exact .inl ⟨h1,by omega,by omega⟩
       ·exact .inr ⟨k,h1,by omega,by omega,h3,h4⟩
     clear hc0 hk1 hk2 hs ho hb htk z0 z1 htt hxm hway
     rcases hway2 with ⟨rfl,rfl,rfl⟩|⟨k,rfl,u7,u8,z4,z5⟩
     case' inl=>
       go_wp2_with fail
       go_quiet (fail)
       go_wp2_with fail
     case' inr=>
       go_wp2_with fail
       go_quiet (fail)
       go_wp2_with fail
       go_quiet (fail)
       go_wp2_with fail
     all_goals (
       clear y0
       go_loopw [8,9] (fun fo at_ wx=>∃p:Nat,a0≤p∧(p≤e∨p=a0)∧at_=.int .i64 p∧fo=.int .i64 (scanF F sg f0 a0 p)∧wx.ownsRow w.heap.size 3 1 (.slice (some ⟨g4,0,none⟩) (K.length+1) c4) (K.length+1) (ics K++[.int .i64 (-1)])∧Below w.heap.size w wx) (fun fo at_ _=>e-(intOf at_).toNat)
       ·exact⟨a0,Nat.le_refl _,.inr rfl,rfl,by rw[scanF_nil F sg f0 (Nat.le_refl _)],HB.out.1,by first|exact below_drewN' HB.out.2.1 _|exact below_drewN' (below_drewN' HB.out.2.1 _) _⟩
       ·obtain⟨p,hp1,hp2,rfl,rfl,ho,hb⟩:=hrel
        have hsz5:=hb.size
        by_cases hpe:p<e
        ·obtain⟨y,hy⟩:∃y,F[p]? = some y:=⟨_,List.getElem?_eq_getElem (by omega)⟩
         obtain⟨g1,o1,rfl,_,hc1⟩:=rd_sat lfc_len (H.out.1.keep hb (Nat.le_refl _)) hy rfl
         have q0:wr.cell? ⟨g1,o1+p*4,none⟩=some (.int .i64 y.kd):=hc1 0 _ rfl
         have q1:wr.cell? ⟨g1,o1+p*4+1,none⟩=some (.string ⟨y.tx.toArray⟩):=hc1 1 _ rfl
         have q2:wr.cell? ⟨g1,o1+p*4+2,none⟩=some (.int .i64 y.fr):=hc1 2 _ rfl
         have q3:wr.cell? ⟨g1,o1+p*4+3,none⟩=some (.int .i64 y.to):=hc1 3 _ rfl
         have u9:(p:Int)<(e:Int):=by omega
         have u10:(0:Int)≤(p:Int):=by omega
         have u11:(p:Int)<(F.length:Int):=by omega
         have hsc:=scanF_succ F sg f0 hp1
         have hsa:sgnAt F p=sgnL y:=by unfold sgnAt;rw[hy]
         have hbe:=u8_beq (sgnL y) sg
         rw[hsa,←hbe] at hsc
         have hsi:=sign_f y wr (by have:=H.out.2.2.2.2.2.2.2.tx y (List.mem_of_getElem? hy);omega)
         have HS:=Lib.hid (And.intro ho (And.intro hb hsi))
         clear hc1 hy hsa hbe ho hb hsi
         cases ht:(((sgnL y).toNat:Int)==(sg.toNat:Int))
         all_goals (
           rw[ht] at hsc
           have HT:=Lib.hid hsc
           clear hsc
           go_wp2_with (
             (go_at_call 59
              refine HS.out.2.2.mono ?_
              rintro e7 w7 ⟨rfl,hb7⟩
              have H7:=Lib.hid hb7
              clear hb7))
           refine⟨⟨p+1,by omega,.inl (by omega),by go_num,by rw[HT.out];rfl,own_below HS.out.1 H7.out,HS.out.2.1.trans (H7.out.mono hsz5)⟩,by simp[intOf];omega⟩)
        ·have hfin:scanF F sg f0 a0 p=scanF F sg f0 a0 e:=by
           rcases hp2 with h|h
           ·rw[show p=e by omega]
           ·subst h;rw[scanF_nil F sg f0 (Nat.le_refl _),scanF_nil F sg f0 (by omega)]
         have HE:=Lib.hid (And.intro ho (And.intro hb hfin))
         have u9:¬(p:Int)<(e:Int):=by omega
         clear ho hb hfin
         go_wp2_with fail
         refine⟨⟨m+1,by omega,by go_num,by rw[HB.out.2.2,HE.out.2.2],by rw[HB.out.2.2],HE.out.1,HE.out.2.1⟩,by simp[intOf];omega⟩)
    ·obtain rfl:m=K.length+1:=by omega
     have hGl:G.length=K.length+1:=by rw[H.out.2.2.2.2.2.1];simp
     rw[←hGl,List.take_length] at hs
     have HE:=Lib.hid (And.intro hb hs)
     clear hb ho hs hGl z0 z1
     go_wp2_with fail
     go_ret
     exact⟨by rw[←HE.out.2];rfl,HE.out.1⟩
end Go.Proofs.YtgdifhhioahakaaGreatDoor
