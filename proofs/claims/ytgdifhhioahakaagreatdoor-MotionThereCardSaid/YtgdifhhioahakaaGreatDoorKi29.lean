/- tree.Kids: the nodes right below one. -/
import Derived.Test.YtgdifhhioahakaaGreatDoorTo29
import Derived.Test.YtgdifhhioahakaaGreatDoorQc13
namespace Go.Proofs.YtgdifhhioahakaaGreatDoor
open Go.RowKit
set_option linter.unusedVariables false
set_option linter.unusedSimpArgs false
set_option maxRecDepth 100000
attribute [local go_sem] Oper.semAt_some
def kidB (L:List Nd) (i k:Nat):Bool:=match L[k]? with|some x=>x.up==(i:Int)|none=>false
def kidK (L:List Nd) (i k:Nat):List Nat:=(List.range k).filter (kidB L i)
theorem is_m (i n c:Nat) (A:Option Addr) (h:i<n) (hn:n≤100000) (w:World):Calls Tryz.prog 78 #[.slice A n c,.int .i64 (i:Int)] w fun e w'=>e=.returned (.bool true)∧w'=w:=by
  have u1:(i:Int)<(n:Int):=by omega
  have u2:(0:Int)≤(i:Int):=by omega
  go_enter Tryz.func78,Tryz.ntmps78
  go_wp2
  go_ret
  exact⟨rfl,rfl⟩
set_option maxHeartbeats 4000000 in
theorem Kids_m (L:List Nd) (hL:L.length≤90000) (A:Option Addr) (c i:Nat) (hi:i<L.length) (w:World) (hR:Rd w w.heap.size 4 (.slice A L.length c) L.length (ndcs L)) :
    Calls Tryz.prog 58 #[.slice A L.length c,.int .i64 (i:Int)] w fun e w'=>∃v,e=.returned v∧w'.ownsRow w.heap.size 3 1 v (kidK L i L.length).length (ics (kidK L i L.length))∧Below w.heap.size w w':=by
  obtain⟨i0,hi0,hz0,hz1,hz2⟩:=info_parts Tryz.infoInt29
  have H:=Lib.hid (And.intro hR (fun W=>is_m i L.length c A hi (by omega) W))
  clear hR
  go_enter Tryz.func58,Tryz.ntmps58
  go_wp2_with (
    (go_at_call 78
     refine(H.out.2 _).mono ?_
     rintro e w2 ⟨rfl,h2⟩
     obtain rfl:=h2.symm
     have H2:=Lib.hid (Below.refl w.heap.size w)))
  go_loopw [4,13] (fun o j wr=>∃k:Nat,k≤L.length∧j=.int .i64 k∧wr.ownsRow w.heap.size 3 1 o (kidK L i k).length (ics (kidK L i k))∧Below w.heap.size w wr) (fun o j _=>L.length-(intOf j).toNat)
  case atStart=>exact⟨0,Nat.zero_le _,rfl,World.ownsRow_nil _ _ _ _,H2.out⟩
  case round=>
    obtain⟨k,hk,rfl,ho,hb⟩:=hrel
    by_cases hlt:k<L.length
    ·obtain⟨x,hx⟩:∃x,L[k]? = some x:=⟨_,List.getElem?_eq_getElem hlt⟩
     have hsz:=hb.size
     obtain⟨g,o,rfl,hg,hc⟩:=rd_sat ndc_len (H.out.1.keep hb (Nat.le_refl _)) hx rfl
     obtain⟨K,hK⟩:∃K:Int,K=(x.kd:Int):=⟨_,rfl⟩
     obtain⟨up,hup⟩:∃up:Int,up=x.up:=⟨_,rfl⟩
     have z0:wr.cell? ⟨g,o+k*4,none⟩=some (.int .i64 K):=by rw[hK];exact hc 0 _ rfl
     have z1:wr.cell? ⟨g,o+k*4+1,none⟩=some (.int .i64 (x.fr:Int)):=hc 1 _ rfl
     have z2:wr.cell? ⟨g,o+k*4+2,none⟩=some (.int .i64 (x.tt:Int)):=hc 2 _ rfl
     have z3:wr.cell? ⟨g,o+k*4+3,none⟩=some (.int .i64 up):=by rw[hup];exact hc 3 _ rfl
     have u1:(k:Int)<(L.length:Int):=by omega
     have u2:(0:Int)≤(k:Int):=by omega
     have hsuc:=filt_succ (kidB L i) k
     have hkb:kidB L i k=(up==(i:Int)):=by unfold kidB;rw[hx,hup]
     have hlen:=filt_len (kidB L i) k
     have hkk:(kidK L i k).length≤k:=hlen
     obtain⟨A2,n2,c2,rfl⟩:=own_form' ho
     obtain rfl:=own_len ho
     have HP:=Lib.hid (And.intro ho (And.intro hb hsuc))
     clear hc hx hK hup ho hb hsuc hlen
     cases ht:(up==(i:Int))
     case' false=>
       rw[ht] at hkb
       have HB:=Lib.hid hkb
       clear hkb
       go_wp2_with fail
       refine⟨⟨k+1,by omega,by go_num,?_,HP.out.2.1.alloc hsz _⟩,by simp[intOf];omega⟩
       unfold kidK
       rw[HP.out.2.2,if_neg (by rw[HB.out];decide),List.append_nil]
       exact HP.out.1.alloc _
     case' true=>
       rw[ht] at hkb
       have HB:=Lib.hid hkb
       clear hkb
       go_upto_region 7 with fail
       refine gen1 fun W hbW hkW hsW=>?_
       have hoW:=own_below HP.out.1 hbW
       have hbw:=HP.out.2.1.trans (hbW.mono hsz)
       have HW:=Lib.hid (And.intro hoW hbw)
       have hszw:=hbw.size
       clear hoW hbw hbW hkW hsW z0 z1 z2 z3
       go_wp2_with (first
         | (at_builtin
            refine wpList_append_rd rfl (.tmp 22) (.tmp 24) 37 rfl w.heap.size 3 i0 _ 1 8 Tryz.underlying37 hi0 hz0 hz1 hz2 rfl (by decide) (.slice A2 (kidK L i k).length c2) (kidK L i k).length (ics (kidK L i k)) rfl (HW.out.1.alloc _) (.slice (some ⟨W.heap.size,0,none⟩) 1 1) 1 (W.heap.size+1) (ics [k]) rfl (rd_new W (ics [k]) 3 1 1 rfl (by omega)) (one_ic _) (by unfold maxLen;omega) (by omega) (by rw[World.size_alloc];omega) ?_
            intro v6 w6 hown6 hg6 hv6
            have hbel6:Below w.heap.size w w6:=(HW.out.2.alloc hszw _).grown hg6 (by rw[World.size_alloc];omega) (fun j hj=>(HW.out.1.lt j hj).1)
            have H6:=Lib.hid (And.intro hown6 hbel6)
            clear hown6 hg6 hv6 hbel6))
       refine⟨⟨k+1,by omega,by go_num,?_,H6.out.2⟩,by simp[intOf];omega⟩
       unfold kidK
       rw[HP.out.2.2,if_pos HB.out]
       have h:=H6.out.1
       rw[←ics_snoc,show (kidK L i k).length+1=(kidK L i k++[k]).length by simp] at h
       exact h
    ·obtain rfl:k=L.length:=by omega
     have HE:=Lib.hid (And.intro ho hb)
     clear ho hb
     go_wp2_with fail
     go_ret
     exact⟨_,rfl,HE.out⟩
end Go.Proofs.YtgdifhhioahakaaGreatDoor
