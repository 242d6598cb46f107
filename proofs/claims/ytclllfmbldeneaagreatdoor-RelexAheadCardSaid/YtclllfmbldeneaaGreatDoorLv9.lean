/- quillwortref09.Leaves: the leaves of a text's tokens. -/
import Derived.Test.YtclllfmbldeneaaGreatDoorRl9
import Derived.Test.YtclllfmbldeneaaGreatDoorLf9
import Derived.Test.YtclllfmbldeneaaGreatDoorLa9
import Derived.Test.YtclllfmbldeneaaGreatDoorSm9
namespace Go.Proofs.YtclllfmbldeneaaGreatDoor
open Go.RowKit
set_option linter.unusedVariables false
set_option linter.unusedSimpArgs false
set_option maxRecDepth 100000
def tz (t:Tk):Tz:=⟨t.kd,t.fr,t.to,t.op⟩
theorem tkcs_tz (ts:List Tk):tkcs ts=(ts.map tz).flatMap tzc:=by
  unfold tkcs
  rw[List.flatMap_map]
  rfl
def lvsL (l:List UInt8):List Lf:=leavesZ l ((lexL l).1.map tz)
theorem inZ_tk {l:List UInt8} {t:Tk} (h1:t.fr≤t.to) (h2:t.to≤l.length):inZ l (tz t)=true:=by
  unfold inZ tz
  simp only[Bool.and_eq_true,decide_eq_true_eq]
  omega
theorem leafZ_tk {l:List UInt8} {t:Tk} (h1:t.fr≤t.to) (h2:t.to≤l.length):leafZ l (tz t)=if leafK (t.kd:Int)=true then [⟨t.kd,sub l t.fr t.to,t.fr,t.to⟩] else []:=by
  have h:=inZ_tk h1 h2
  unfold leafZ txZ
  rw[h]
  by_cases hk:leafK (t.kd:Int)=true
  ·rw[if_pos ⟨rfl,hk⟩,if_pos hk,if_pos rfl];rfl
  ·rw[if_neg (fun h=>hk h.2),if_neg hk]
theorem leafK_ways2 (k:Int):((k==2)=true∧leafK k=true)∨((k==2)=false∧(k==4)=true∧leafK k=true)∨((k==2)=false∧(k==4)=false∧(k==5)=true∧leafK k=true) ∨
    ((k==2)=false∧(k==4)=false∧(k==5)=false∧(k==6)=true∧leafK k=true)∨((k==2)=false∧(k==4)=false∧(k==5)=false∧(k==6)=false∧leafK k=false):=by
  unfold leafK
  cases h4:k==4<;>cases h5:k==5<;>cases h6:k==6<;>cases h2:k==2<;>simp
set_option maxHeartbeats 4000000 in
theorem rleaves_m (l:List UInt8) (w:World) (hl:l.length≤900) :
    Calls Tryz.prog 26 #[.string ⟨l.toArray⟩] w fun e w'=>∃v,e=.returned v∧w'.ownsRow w.heap.size 62 4 v (lvsL l).length (lfcs (lvsL l))∧Below w.heap.size w w':=by
  obtain⟨i0,hi0,hz0,hz1,hz2⟩:=info_parts Tryz.infoLeaf
  have htile:=tile_lexL l
  have tlen:=lexL_len l
  unfold lvsL
  obtain⟨ts,hts⟩:∃ts,ts=(lexL l).1:=⟨_,rfl⟩
  obtain⟨Y,hY⟩:∃Y,Y=(lexL l).2:=⟨_,rfl⟩
  have hL:∀W,Calls Tryz.prog 36 #[.string ⟨l.toArray⟩] W fun e w'=>∃v1 v2,e=.returned (.tuple #[v1,v2])∧w'.ownsRow W.heap.size 40 4 v1 ts.length (tkcs ts)∧LxP w' Y v2∧Below W.heap.size W w':=by
    intro W
    rw[hts,hY]
    exact rlex_m l W hl
  rw[←hts] at htile tlen ⊢
  clear hts hY
  have HT:=Lib.hid (And.intro htile hL)
  clear htile hL
  go_enter Tryz.func26,Tryz.ntmps26
  go_wp2_with (
    (go_at_call 36
     refine(HT.out.2 _).mono ?_
     rintro e w2 ⟨v1,v2,rfl,ho,⟨v3,rfl,hr⟩,hb2⟩
     obtain⟨A3,c3,rfl⟩:=hr.form
     unfold lxv
     obtain⟨A,n,c,rfl⟩:=own_form' ho
     obtain rfl:=own_len ho
     have hb3:=hb2.alloc hb2.size (.cells #[.int .i64 Y.aw,.slice A3 Y.pd.length c3,.bool Y.bd] 48)
     have hr3:=Rd.of_own (ho.alloc (.cells #[.int .i64 Y.aw,.slice A3 Y.pd.length c3,.bool Y.bd] 48))
     have H2:=Lib.hid (And.intro hr3 hb3)
     clear ho hb2 hr hb3 hr3))
  generalize World.alloc _ _=W at H2 ⊢
  go_loopw [5,6] (fun o i wr=>∃k:Nat,k≤ts.length∧i=.int .i64 k∧wr.ownsRow W.heap.size 62 4 o (leavesZ l ((ts.map tz).take k)).length (lfcs (leavesZ l ((ts.map tz).take k)))∧Below W.heap.size W wr) (fun o i _=>ts.length-(intOf i).toNat)
  case atStart=>exact⟨0,Nat.zero_le _,rfl,World.ownsRow_nil _ _ _ _,Below.refl _ _⟩
  case round=>
    obtain⟨k,hk,rfl,ho,hb⟩:=hrel
    by_cases hlt:k<ts.length
    ·obtain⟨⟨kd,fr,tt,op⟩,hget⟩:∃t,ts[k]? = some t:=⟨_,List.getElem?_eq_getElem hlt⟩
     obtain⟨_,t2,t3,_⟩:=tile_at HT.out.1 k _ hget
     have t2:fr<tt:=t2
     have t3:tt≤l.length:=t3
     obtain⟨g,q,rfl,hgl,hc⟩:=rd_sat tkc_len (H2.out.1.keep hb (Nat.le_refl _)) hget rfl
     have hcw:∀w',Below W.heap.size W w'→w'.cell? ⟨g,q+k*4,none⟩=some (.int .i64 (kd:Int))∧w'.cell? ⟨g,q+k*4+1,none⟩=some (.int .i64 (fr:Int))∧w'.cell? ⟨g,q+k*4+2,none⟩=some (.int .i64 (tt:Int)):=fun w' hb'=>by
       obtain⟨g',q',he,_,hc'⟩:=rd_sat tkc_len (H2.out.1.keep hb' (Nat.le_refl _)) hget rfl
       injection he with he
       injection he with h1 h2
       subst h1 h2
       exact⟨hc' 0 _ rfl,hc' 1 _ rfl,hc' 2 _ rfl⟩
     have HC:=Lib.hid hcw
     clear hcw
     have y0:wr.cell? ⟨g,q+k*4,none⟩=some (.int .i64 (kd:Int)):=hc 0 _ rfl
     have y1:wr.cell? ⟨g,q+k*4+1,none⟩=some (.int .i64 (fr:Int)):=hc 1 _ rfl
     have y2:wr.cell? ⟨g,q+k*4+2,none⟩=some (.int .i64 (tt:Int)):=hc 2 _ rfl
     have u1:(k:Int)<(ts.length:Int):=by omega
     have u2:(0:Int)≤(k:Int):=by omega
     have v0:(0:Int)≤(fr:Int):=by omega
     have v1:(fr:Int)≤(tt:Int):=by omega
     have v2:(tt:Int)≤(l.length:Int):=by omega
     have hlen:(leavesZ l ((ts.map tz).take k)).length≤100000:=by
       have:=leavesZ_len l ((ts.map tz).take k)
       rw[List.length_take,List.length_map] at this
       omega
     have hsuc:=leavesZ_take l (ts.map tz) (k:=k) (t:=tz ⟨kd,fr,tt,op⟩) (by rw[List.getElem?_map,hget];rfl)
     have hleaf:=leafZ_tk (l:=l) (t:=⟨kd,fr,tt,op⟩) (by show fr≤tt;omega) t3
     have hleaf:leafZ l (tz ⟨kd,fr,tt,op⟩)=if leafK (kd:Int)=true then [⟨kd,sub l fr tt,fr,tt⟩] else []:=hleaf
     have hext:(ByteArray.mk l.toArray).extract fr tt=⟨(sub l fr tt).toArray⟩:=by rw[ba_extract];rfl
     obtain⟨L,hL⟩:∃L,L=leavesZ l ((ts.map tz).take k):=⟨_,rfl⟩
     obtain⟨X,hX⟩:∃X,X=sub l fr tt:=⟨_,rfl⟩
     rw[←hL] at hsuc ho hlen
     rw[←hX] at hleaf hext
     have kways:=leafK_ways2 (kd:Int)
     generalize leafK (kd:Int)=bk at kways hleaf
     obtain⟨A2,n2,c2,rfl⟩:=own_form' ho
     obtain rfl:=own_len ho
     have hod:wr.drew.ownsRow W.heap.size 62 4 (.slice A2 L.length c2) L.length (lfcs L):=ho
     have HP:=Lib.hid (And.intro ho (And.intro hb (And.intro hsuc (And.intro hleaf (And.intro hext hod)))))
     clear ho hb hsuc hleaf hext hod hc hget hL hX t2 t3
     rcases kways with ⟨k2,rfl⟩|⟨k2,k4,rfl⟩|⟨k2,k4,k5,rfl⟩|⟨k2,k4,k5,k6,rfl⟩|⟨k2,k4,k5,k6,rfl⟩
     iterate 4
       ·go_upto_region 8 with fail
        go_region_held3 (fun w'=>w'.cell? ⟨g,q+k*4,none⟩=some (.int .i64 (kd:Int))∧w'.cell? ⟨g,q+k*4+1,none⟩=some (.int .i64 (fr:Int))∧w'.cell? ⟨g,q+k*4+2,none⟩=some (.int .i64 (tt:Int)))
          (first
            | with_reducible exact⟨y0,y1,y2⟩
            | go_keep)
          (first
            | (rw[HP.out.2.2.2.2.1]
               refine step_append_rd rfl (.tmp 38) (.tmp 63) 58 rfl W.heap.size 62 i0 _ 4 40 Tryz.underlying58 hi0 hz0 hz1 hz2 rfl (by decide) (.slice A2 L.length c2) L.length (lfcs L) (by simp[Act.eval]) (HP.out.2.2.2.2.2.alloc _) (.slice (some ⟨wr.heap.size,0,none⟩) 1 1) 1 (wr.heap.size+1) (lfcs [⟨kd,X,fr,tt⟩]) (by simp[Act.eval]) (rd_new wr.drew (lfcs [⟨kd,X,fr,tt⟩]) 62 4 1 rfl (by omega)) (one_lf _) (by unfold maxLen;omega) (by omega) (by have:=HP.out.2.1.size;simp;omega) ?_
               intro v6 w6 hown6 hg6 hv6
               have hb6:Below W.heap.size W w6:=Below.grown (HP.out.2.1.drew.alloc (by have:=HP.out.2.1.size;simp;omega) _) hg6 (by have:=HP.out.2.1.size;simp;omega) (fun kk hk=>(HP.out.1.lt kk hk).1)
               obtain⟨y0,y1,y2⟩:=HC.out w6 hb6
               have H6:=Lib.hid (And.intro hown6 hb6)
               clear hown6 hg6 hv6 hb6))
        all_goals (
          go_wp2_with fail
          refine⟨⟨k+1,by omega,by go_num,?_,H6.out.2⟩,by simp[intOf];omega⟩
          rw[HP.out.2.2.1,HP.out.2.2.2.1,if_pos rfl,lfcs_app,List.length_append]
          exact H6.out.1)
     ·go_wp2_with fail
      refine⟨⟨k+1,by omega,by go_num,?_,HP.out.2.1⟩,by simp[intOf];omega⟩
      rw[HP.out.2.2.1,HP.out.2.2.2.1,if_neg (by decide),List.append_nil]
      exact HP.out.1
    ·obtain rfl:k=ts.length:=by omega
     rw[List.take_of_length_le (by simp)] at ho
     have HP:=Lib.hid (And.intro ho hb)
     clear ho hb
     go_wp2_with fail
     go_ret
     exact⟨_,rfl,own_base HP.out.1 H2.out.2.size,H2.out.2.trans (HP.out.2.mono H2.out.2.size)⟩
end Go.Proofs.YtclllfmbldeneaaGreatDoor
