/- each tells the pieces: its contract as a sequence; a consumer with a box. -/
import Derived.Test.YtlbfdbinaekjoaaGreatDoorEa8
import Derived.Test.YtlbfdbinaekjoaaGreatDoorLa9
import Derived.Test.YtlbfdbinaekjoaaGreatDoorFl8
import Derived.Test.YtlbfdbinaekjoaaGreatDoorRfy
import Derived.Test.YtlbfdbinaekjoaaGreatDoorDb8
import Derived.Lib.Builder
import Derived.Lib.UnsafeStr
import Derived.Lib.Strings
import Derived.Laws.Externs
namespace Go.Proofs.YtlbfdbinaekjoaaGreatDoor
open Go.RowKit
set_option linter.unusedVariables false
set_option linter.unusedSimpArgs false
set_option maxRecDepth 100000
attribute [local go_sem] Oper.semAt_some
theorem each_seq (n₀ rb b c m:Nat) (Xc:Nat→Prop) (l:List UInt8) (A:Option Addr) (hl:l.length≤900) (w:World) (hrd:Rdr w n₀ Xc b l A c m) (hrb:Bk w rb 118 #[.pointer (some ⟨b,0,none⟩)]) (hrn:rb<n₀∧¬Xc rb) (hn:n₀≤w.heap.size) :
    SeqX Tryz.prog 134 #[.pointer (some ⟨rb,0,none⟩)] encP (KeepX n₀ Xc) (fun xs=>xs=pcsL l) (fun pre=>pre<+:pcsL l) (pcsL l) w:=by
  intro n l' J Jx W hW hF _ hY hJ
  exact each1_in n l' (pcsL l) n₀ rb b c m Xc l A J Jx hF hY hl W hJ (hrd.below hW hn) (hrb.below hW hrb.lt) hrn (Nat.le_trans hn hW.size) _ rfl (List.prefix_refl _)
theorem each_m (b:Nat) (w:World) :
    Calls Tryz.prog 101 #[.pointer (some ⟨b,0,none⟩)] w fun e w'=>e=.returned (.func (.func 134) #[] #[.pointer (some ⟨w.heap.size,0,none⟩)])∧w'=w.alloc (.cells #[.pointer (some ⟨b,0,none⟩)] 118):=by
  go_enter Tryz.func101,Tryz.ntmps101
  go_wp2
  go_ret
  exact⟨rfl,rfl⟩
structure Cb (B N bx:Nat) (bt e:TypeId) (sz:Nat) (Bw:World) (n:Nat) (xs:List Value) (X:Nat→Prop) (W:World):Prop where
  row:∃v,Boxed W bx bt v∧W.ownsRow N e sz v n xs∧(¬X bx∧∀k,v.ownBlock=some k→¬X k)
  bl:Below B Bw W
  sz:N≤W.heap.size
  xb:∀k,X k→B≤k∧k<W.heap.size
theorem Cb.fits {α:Type} {B N bx sz:Nat} {bt e:TypeId} {Bw:World} {n:List α→Nat} {xs:List α→List Value} (hB:B≤N):Fits (fun (X:Nat→Prop) (pre:List α) W=>Cb B N bx bt e sz Bw (n pre) (xs pre) X W):=by
  rintro X s A C ⟨⟨v,h1,h2,h3,h4⟩,h5,h6,h7⟩ hx
  refine⟨⟨v,?_,?_,?_,?_⟩,⟨hx.os.trans h5.1,hx.tape.trans h5.2,hx.output.trans h5.3,Nat.le_trans h5.size hx.size,fun k hk=>?_⟩,Nat.le_trans h6 hx.size,fun k hk=>?_⟩
  ·exact(hx.block _ h1.lt h3).trans h1
  ·refine⟨h2.1,?_⟩
   rcases h2.2 with h|⟨g,cap,cur,he,hg,hh,r⟩
   ·exact .inl h
   ·exact .inr ⟨g,cap,cur,he,hg,(hx.block g (Array.getElem?_eq_some_iff.1 hh).1 (h4 g (by rw[he];rfl))).trans hh,r⟩
  ·rintro (hk|hk)
   ·exact h3 hk
   ·have:=h1.lt;omega
  ·rintro k hk (hk2|hk2)
   ·exact h4 k hk hk2
   ·have:=(h2.lt k hk).2;omega
  ·exact(hx.block k (by have:=h5.size;omega) (fun h=>by have:=(h7 k h).1;omega)).trans (h5.block k hk)
  ·rcases hk with hk|hk
   ·have:=h7 k hk;have:=hx.size;omega
   ·have:=h5.size;omega
theorem cb_own (N bx sz:Nat) (bt e:TypeId) (n:Nat) (xs:List Value) (B M:Nat) (Bw:World) (X:Nat→Prop) (hB:B≤M) (hB2:B≤Bw.heap.size):OwnFrom M (fun (_:Unit) W=>Cb B N bx bt e sz Bw n xs X W):=by
  have h1:=OwnFrom.and (Own.from (holdsRow_own N bx bt e sz (fun _:Unit=>n) (fun _=>xs) (fun _ v=>¬X bx∧∀k,v.ownBlock=some k→¬X k)) M) (OwnFrom.and (ownFrom_below (β:=Unit) (w₀:=Bw) (n₀:=B) hB2 hB) (ownFrom_size (β:=Unit) N M))
  rintro s W W' row ⟨a,b,c,d⟩ hg hr
  obtain⟨a2,b2,c2⟩:=h1 s W W' row ⟨a,b,c⟩ hg hr
  exact⟨a2,b2,c2,fun k hk=>⟨(d k hk).1,Nat.lt_of_lt_of_le (d k hk).2 hg.size⟩⟩
theorem Cb.alloc {B N bx sz:Nat} {bt e:TypeId} {Bw:World} {n:Nat} {xs:List Value} {X:Nat→Prop} {W:World} (h:Cb B N bx bt e sz Bw n xs X W) (hBw:B≤Bw.heap.size) (o:Obj):Cb B N bx bt e sz Bw n xs X (W.alloc o):=by
  obtain⟨⟨v,h1,h2,h3⟩,h5,h6,h7⟩:=h
  exact⟨⟨v,h1.alloc _,h2.alloc _,h3⟩,h5.alloc (Nat.le_trans hBw h5.size) _,by simp;omega,fun k hk=>⟨(h7 k hk).1,by have:=(h7 k hk).2;simp;omega⟩⟩
theorem Cb.app {B N bx sz M n₀:Nat} {bt e:TypeId} {Bw:World} {n n':Nat} {xs xs':List Value} {X Xc:Nat→Prop} {W W1 w1:World} {v v':Value} (hv:Boxed W bx bt v) (hrow:W.ownsRow N e sz v n xs) (hnx:¬X bx∧∀k,v.ownBlock=some k→¬X k) (hbl:Below B Bw W) (hsz:N≤W.heap.size) (hxb:∀k,X k→B≤k∧k<W.heap.size)
    (hbt:bt≠e) (hbx:B≤bx) (hbN:bx<N) (hn:n₀≤B) (hBw:B≤Bw.heap.size) (hW:Below W.heap.size W W1) (hg:W1.grownBy w1 v.ownBlock) (hown:w1.ownsRow N e sz v' n' xs') (hv':v'.ownBlock=v.ownBlock∨v'.ownBlock=some W1.heap.size) :
    KeepsFrom M W (w1.setCell ⟨bx,0,none⟩ v')∧KeepX n₀ Xc W (w1.setCell ⟨bx,0,none⟩ v')∧(∀k,X k→(w1.setCell ⟨bx,0,none⟩ v').heap[k]? = W.heap[k]?)∧Cb B N bx bt e sz Bw n' xs' X (w1.setCell ⟨bx,0,none⟩ v'):=by
  obtain⟨q1,q2,q3,q4,q5,q6⟩:=box_append (M:=M) hv hbt hrow hsz hbN hW hg hown
  refine⟨q1,KeepX.of_below (q5 B hbx) hn,fun k hk=>?_,⟨⟨v',q3,q4,hnx.1,fun k hk hX=>?_⟩,hbl.trans (q5 B hbx),q6,fun k hk=>⟨(hxb k hk).1,Nat.lt_of_lt_of_le (hxb k hk).2 q1.size⟩⟩⟩
  ·have hlt:=(hxb k hk).2
   refine(Below.heap_setCell _ _ _ k (fun e=>hnx.1 (by have e':k=bx:=e;rw[←e'];exact hk))).trans ?_
   exact(hg.block k (by have:=hW.size;omega) (fun e=>hnx.2 k e.symm hk)).trans (hW.block k hlt)
  ·rcases hv' with e|e
   ·exact hnx.2 k (by rw[←e];exact hk) hX
   ·rw[e] at hk
    injection hk with hk
    have:=(hxb k hX).2
    have:=hW.size
    omega
end Go.Proofs.YtlbfdbinaekjoaaGreatDoor
namespace Go.Proofs.YtlbfdbinaekjoaaGreatDoor
open Go.RowKit
set_option linter.unusedVariables false
set_option linter.unusedSimpArgs false
set_option maxRecDepth 100000
theorem Tryz.sizeBuilder:(Tryz.prog.info? 115).map (·.size)=some 2:=by kernel_rfl
theorem Tryz.liesBuilder:liesAt Tryz.prog Tryz.prog.depth 115 (2/Tryz.prog.cellsOf 115) 0 115 1=true:=by kernel_rfl
theorem Tryz.cellsByte:Tryz.prog.cellsOf 5=1:=by kernel_rfl
set_option maxHeartbeats 1000000 in
theorem copyCheck_used (b:Nat) (w:World) (h0:w.cell? ⟨b,0,none⟩=some (.pointer (some ⟨b,0,none⟩))) :
    Calls Tryz.prog 140 #[.pointer (some ⟨b,0,none⟩)] w fun e w'=>e=.returned (.tuple #[])∧w'=w:=by
  obtain⟨j,hj,_⟩:=Option.map_eq_some_iff.1 Tryz.sizeBuilder
  go_enter Tryz.func140,Tryz.ntmps140
  go_wp2
  rw[Lib.run_neq_ptr_same w _ Tryz.underlying113 hj]
  go_wp2
  go_end0
  exact⟨rfl,rfl⟩
set_option maxHeartbeats 1000000 in
theorem copyCheck_fresh (b:Nat) (w:World) (h0:w.cell? ⟨b,0,none⟩=some (.pointer none)) (hsh:w.shape? b=some (115,2)) (hfz:w.frozen? ⟨b,0,none⟩=false) :
    Calls Tryz.prog 140 #[.pointer (some ⟨b,0,none⟩)] w fun e w'=>e=.returned (.tuple #[])∧w'=w.setCell ⟨b,0,none⟩ (.pointer (some ⟨b,0,none⟩)):=by
  obtain⟨j,hj,hjs⟩:=Option.map_eq_some_iff.1 Tryz.sizeBuilder
  go_enter Tryz.func140,Tryz.ntmps140
  go_wp2
  rw[Lib.run_to_unsafe w ⟨b,0,none⟩ Tryz.underlying113 Tryz.underlying172 hj (by rw[hjs];decide) hsh (Nat.zero_lt_succ 1)]
  go_wp2
  rw[run_callFunc_extern Tryz.func160 (by kernel_rfl) (by kernel_rfl) (by kernel_rfl) (e:=Extern.AbiNoEscape.same) (by kernel_rfl)]
  rw[Lib.run_noEscape]
  simp only[Result.andThen]
  rw[Oper.upon_value]
  go_wp2
  rw[Lib.run_from_unsafe w ⟨b,0,none⟩ Tryz.underlying172 Tryz.underlying113 hj hsh Tryz.liesBuilder]
  go_wp2
  go_end0
  exact⟨rfl,rfl⟩
theorem bk_shape {w:World} {g:Nat} {t:TypeId} {a b:Value} (h:Bk w g t #[a,b]):w.shape? g=some (t,2):=by
  unfold Bk at h
  simp[World.shape?,h]
theorem copyCheck_b (w:World) (b:Nat) (p v:Value) (hp:p=.pointer none∨p=.pointer (some ⟨b,0,none⟩)) (hb:Bk w b 115 #[p,v]) :
    Calls Tryz.prog 140 #[.pointer (some ⟨b,0,none⟩)] w fun e w'=>e=.returned (.tuple #[])∧Bk w' b 115 #[.pointer (some ⟨b,0,none⟩),v]∧w.grownBy w' (some b)∧w'.heap.size=w.heap.size:=by
  rcases hp with rfl|rfl
  ·refine(copyCheck_fresh b w (by rw[hb.cell];rfl) (bk_shape hb) (hb.frozen 0)).mono ?_
   rintro e w' ⟨rfl,rfl⟩
   exact⟨rfl,by simpa using hb.set 0 (.pointer (some ⟨b,0,none⟩)),grownBy_setCell' w b _,by simp[World.setCell]⟩
  ·refine(copyCheck_used b w (by rw[hb.cell];rfl)).mono ?_
   rintro e w' ⟨rfl,rfl⟩
   exact⟨rfl,hb,grown_refl _ _,rfl⟩
theorem wpList_append_str {P:Program} (w:World) {ops:Array Oper} {rest:List Oper} {o:Oper} {a:Act} {Q:Exit→Act→World→Prop} (hgd:o.guard=none) (s x:Operand) (t u:TypeId)
    (ho:o.op=.call {callee:=.builtin .append,args:=#[s,x],argTypes:=#[t,u]})
    (base:Nat) (e:TypeId) (i:TypeInfo) (ht:P.underlying t=some (.slice e)) (hu:P.underlying u=some .string) (hi:P.info? e=some i) (hz:i.zero=some (.int .u8 0)) (hsize:i.size=1) (hby:i.bytes=1)
    (v:Value) (k:Nat) (xs:List Value) (hs:a.eval s=v) (hown:w.ownsRow base e 1 v k xs) (y:ByteArray) (hx:a.eval x=.string y)
    (h63:k+y.size≤maxLen) (hbytes:k+y.size≤140737488355328) (hbase:base≤w.heap.size)
    (h:∀v' w',w'.ownsRow base e 1 v' (k+y.size) (xs++Lib.strCells y)→w.grownBy w' v.ownBlock→(v'.ownBlock=v.ownBlock∨v'.ownBlock=some w.heap.size)→wpList P ops Q rest (a.put o.dst v') w'):wpList P ops Q (o::rest) a w:=by
  refine wpList_plain hgd fun K hK=>?_
  obtain⟨v',w',hr,h2,h3,h4⟩:=run_append_str (P:=P) w base t u o.type e i ht hu hi hz hsize hby v k xs hown y h63 hbytes hbase
  unfold Oper.wp execOp
  simp only[ho,resolve,invoke,builtin,Sem.run_bind,Sem.run_pure,Result.andThen_ok,List.map_toArray,List.map_cons,List.map_nil,hs,hx,hr]
  exact hK _ _ (h v' w' h2 h3 h4)
set_option maxHeartbeats 2000000 in
theorem write_b (w:World) (N b:Nat) (p v:Value) (l t:List UInt8) (hp:p=.pointer none∨p=.pointer (some ⟨b,0,none⟩)) (hb:Bk w b 115 #[p,v]) (ho:w.ownsRow N 5 1 v l.length (bvals l)) (hN:N≤w.heap.size) (hlen:l.length+t.length≤100000000) :
    Calls Tryz.prog 102 #[.pointer (some ⟨b,0,none⟩),.string ⟨t.toArray⟩] w fun e w'=>e=.returned (.tuple #[.int .i64 (t.length:Int),.nilIface])∧∃v',
      Bk w' b 115 #[.pointer (some ⟨b,0,none⟩),v']∧w'.ownsRow N 5 1 v' (l++t).length (bvals (l++t))∧(v'.ownBlock=v.ownBlock∨v'.ownBlock=some w.heap.size) ∧
      w'.os=w.os∧w'.tape=w.tape∧w'.output=w.output∧w.heap.size≤w'.heap.size∧∀k,k<w.heap.size→k≠b→some k≠v.ownBlock→w'.heap[k]? = w.heap[k]? := by
  obtain⟨i0,hi,hz0,hz1,hz2⟩:=info_parts Tryz.infoByte
  have H:=Lib.hid (And.intro hb (And.intro ho hp))
  clear hb ho hp
  go_enter Tryz.func102,Tryz.ntmps102
  go_wp2_with (first
    | (go_at_call 140
       refine(copyCheck_b w b p v H.out.2.2 H.out.1).mono ?_
       rintro e w1 ⟨rfl,hb1,hg1,hz1⟩
       have ho1:=H.out.2.1.kept hg1 (.inr (own_ne H.out.2.1 H.out.1 (by decide)))
       have c0:=hb1.cell 0
       have c1:=hb1.cell 1
       simp only[List.getElem?_toArray,List.getElem?_cons_zero,List.getElem?_cons_succ] at c0 c1
       have hs1:=hg1.size
       have H1:=Lib.hid (And.intro hb1 (And.intro hg1 (And.intro ho1 hz1)))
       clear hb1 hg1 ho1 hz1)
    | (at_builtin
       refine wpList_append_str _ rfl (.tmp 12) (.tmp 13) 111 9 rfl N 5 i0 Tryz.underlying111 Tryz.underlying9 hi hz0 ‹i0.size=1› hz2 v l.length (bvals l) rfl H1.out.2.2.1 ⟨t.toArray⟩ rfl (by show l.length+t.length≤maxLen;unfold maxLen;omega) (by show l.length+t.length≤_;omega) (by omega) ?_
       intro v2 w2 hown2 hg2 hv2
       obtain⟨A2,n2,c2,rfl⟩:=own_form' hown2
       have hb2:=H1.out.1.grown hg2 (own_ne H1.out.2.2.1 H1.out.1 (by decide)).symm
       have d0:=hb2.cell 0
       have d1:=hb2.cell 1
       have f1:=hb2.frozen 1
       simp only[List.getElem?_toArray,List.getElem?_cons_zero,List.getElem?_cons_succ] at d0 d1
       have H2:=Lib.hid (And.intro hown2 (And.intro hg2 (And.intro hv2 hb2)))
       clear hown2 hg2 hv2 hb2))
  obtain⟨hb1,hg1,ho1,hz⟩:=H1.out
  obtain⟨hown2,hg2,hv2,hb2⟩:=H2.out
  go_ret2
  refine⟨rfl,.slice A2 n2 c2,by simpa using hb2.set 1 (.slice A2 n2 c2),own_far (by rw[List.length_append,bvals_app,←str_cells t];exact hown2) (own_ne hown2 hb2 (by decide)) _,by rw[←hz];exact hv2,hg2.os.trans hg1.os,hg2.tape.trans hg1.tape,hg2.output.trans hg1.output,by have:=hg2.size;simpa [World.setCell] using Nat.le_trans hs1 this,fun k hk hkb hkv=>?_⟩
  exact(Below.heap_setCell _ _ _ k hkb).trans ((hg2.block k (by omega) hkv).trans (hg1.block k hk (by intro e;injection e with e;exact hkb e)))
theorem grown_freeze (w:World) (g n:Nat):w.grownBy (w.drew.freeze ⟨g,0,none⟩ n) (some g):=by
  unfold World.freeze
  split
  ·exact⟨rfl,rfl,rfl,Nat.le_refl _,fun _ _ _=>rfl⟩
  ·refine⟨rfl,rfl,rfl,?_,fun k hk hne=>?_⟩
   ·show w.heap.size≤(w.heap.modify g _).size
    simp
   ·show (w.heap.modify g _)[k]? = w.heap[k]?
    rw[Array.getElem?_modify,if_neg (by intro e;exact hne (by rw[e]))]
theorem grown_drew (w:World) (row:Option Nat):w.grownBy w.drew row:=⟨rfl,rfl,rfl,Nat.le_refl _,fun _ _ _=>rfl⟩
theorem grown_drew_alloc (w:World) (o:Obj) (row:Option Nat):w.grownBy (w.drew.alloc o) row:=
  ⟨rfl,rfl,rfl,by simp,fun k hk _=>Below.heap_alloc w.drew o k hk⟩
theorem strS_some (w:World) (b g cap:Nat) (p:Value) (l:List UInt8) (hb:Bk w b 115 #[p,.slice (some ⟨g,0,none⟩) l.length cap]) (N:Nat) (ho:w.ownsRow N 5 1 (.slice (some ⟨g,0,none⟩) l.length cap) l.length (bvals l)) (h0:l≠[]) :
    Calls Tryz.prog 103 #[.pointer (some ⟨b,0,none⟩)] w fun e w'=>e=.returned (.string ⟨l.toArray⟩)∧w.grownBy w' (some g):=by
  have hl0:l.length≠0:=by simpa using h0
  obtain⟨_,hnc,hcm,hNg,hgl⟩:=own_le ho
  have hgh:=own_heap ho
  have c1:w.drew.cell? ⟨b,1,none⟩=some (.slice (some ⟨g,0,none⟩) l.length cap):=by rw[hb.drew.cell];rfl
  have hSD:(Builtin.unsafeSliceData_ #[111] 157 #[.slice (some ⟨g,0,none⟩) l.length cap]).run Tryz.prog w.drew=.ok (.pointer (some ⟨g,0,none⟩)) w.drew:=
    Lib.run_unsafeSliceData_row _ _ _ _ _ _ (by omega)
  obtain⟨cur,hcur,hcs⟩:∃cur,w.heap[g]? = some (.cells cur 5 (0,0))∧cur.size=cap:=by
    rcases ho.2 with ⟨h,_⟩|⟨g',cap',cur,he,_,hh,_,_,hcs,_⟩
    ·cases h
    ·cases he
     exact⟨cur,hh,by omega⟩
  have hUS:(Builtin.unsafeString_ #[157,3] 9 #[.pointer (some ⟨g,0,none⟩),.int .i64 l.length]).run Tryz.prog w.drew=.ok (.string ⟨l.toArray⟩) (w.drew.freeze ⟨g,0,none⟩ l.length):=by
    refine Lib.run_unsafeString_row w.drew 157 3 9 5 Tryz.underlying157 Tryz.cellsByte g cur.size (by have hg':w.drew.heap[g]? = some (.cells cur 5 (0,0)):=hcur;simp[World.shape?,hg']) l h0 (by omega) (by unfold maxLen at hcm;omega) ?_
    intro j x hx
    have:=ho.cells (g:=g) rfl j (.int .u8 x.toNat) (by simp[bvals,hx])
    exact this
  have H:=Lib.hid (And.intro ho hb)
  clear ho hb hgh hcur hcs
  go_enter Tryz.func103,Tryz.ntmps103
  go_wp2
  go_region
  all_goals (
    go_wp2
    go_ret
    exact⟨rfl,grown_freeze w g _⟩)
theorem strS_nil (w:World) (b:Nat) (p:Value) (hb:Bk w b 115 #[p,.slice none 0 0]) (row:Option Nat) :
    Calls Tryz.prog 103 #[.pointer (some ⟨b,0,none⟩)] w fun e w'=>e=.returned (.string ⟨#[]⟩)∧w.grownBy w' row:=by
  have hUS:∀(W:World) (q:Option Addr),(Builtin.unsafeString_ #[157,3] 9 #[.pointer q,.int .i64 0]).run Tryz.prog W=.ok (.string .empty) W:=fun W q=>Lib.run_unsafeString_none W _ _ _ q
  have c1:w.drew.cell? ⟨b,1,none⟩=some (.slice none 0 0):=by rw[hb.drew.cell];rfl
  have hSD:(Builtin.unsafeSliceData_ #[111] 157 #[.slice none 0 0]).run Tryz.prog w.drew=.ok (.pointer none) w.drew:=rfl
  go_enter Tryz.func103,Tryz.ntmps103
  go_wp2
  go_region
  all_goals (
    go_wp2
    go_ret
    exact⟨rfl,grown_drew w row⟩)
theorem strS_room (w:World) (b g cap:Nat) (p:Value) (hc0:cap≠0) (hb:Bk w b 115 #[p,.slice (some ⟨g,0,none⟩) 0 cap]) (row:Option Nat) :
    Calls Tryz.prog 103 #[.pointer (some ⟨b,0,none⟩)] w fun e w'=>e=.returned (.string ⟨#[]⟩)∧w.grownBy w' row:=by
  have hUS:∀(W:World) (q:Option Addr),(Builtin.unsafeString_ #[157,3] 9 #[.pointer q,.int .i64 0]).run Tryz.prog W=.ok (.string .empty) W:=fun W q=>Lib.run_unsafeString_none W _ _ _ q
  have c1:w.drew.cell? ⟨b,1,none⟩=some (.slice (some ⟨g,0,none⟩) 0 cap):=by rw[hb.drew.cell];rfl
  have hSD:(Builtin.unsafeSliceData_ #[111] 157 #[.slice (some ⟨g,0,none⟩) 0 cap]).run Tryz.prog w.drew=.ok (.pointer (some ⟨g,0,none⟩)) w.drew:=
    Lib.run_unsafeSliceData_row _ _ _ _ _ _ hc0
  clear hc0
  go_enter Tryz.func103,Tryz.ntmps103
  go_wp2
  go_region
  all_goals (
    go_wp2
    go_ret
    exact⟨rfl,grown_drew w row⟩)
theorem strS_noroom (w:World) (b g:Nat) (p:Value) (cur:Array Value) (hb:Bk w b 115 #[p,.slice (some ⟨g,0,none⟩) 0 0]) (hg:w.heap[g]? = some (.cells cur 5 (0,0))) (row:Option Nat) :
    Calls Tryz.prog 103 #[.pointer (some ⟨b,0,none⟩)] w fun e w'=>e=.returned (.string ⟨#[]⟩)∧w.grownBy w' row:=by
  have hUS:∀(W:World) (q:Option Addr),(Builtin.unsafeString_ #[157,3] 9 #[.pointer q,.int .i64 0]).run Tryz.prog W=.ok (.string .empty) W:=fun W q=>Lib.run_unsafeString_none W _ _ _ q
  have c1:w.drew.cell? ⟨b,1,none⟩=some (.slice (some ⟨g,0,none⟩) 0 0):=by rw[hb.drew.cell];rfl
  have c0:w.cell? ⟨b,1,none⟩=some (.slice (some ⟨g,0,none⟩) 0 0):=c1
  have hSD:(Builtin.unsafeSliceData_ #[111] 157 #[.slice (some ⟨g,0,none⟩) 0 0]).run Tryz.prog w.drew=.ok (.pointer (some ⟨w.drew.heap.size,0,none⟩)) (w.drew.alloc (.view ⟨g,0,none⟩ 5)):=
    Lib.run_unsafeSliceData_zero w.drew _ _ 5 Tryz.underlying157 ⟨g,0,none⟩ 0 (5,cur.size) (by have hg':w.drew.heap[g]? = some (.cells cur 5 (0,0)):=hg;simp[World.shape?,hg'])
  have c2:(w.drew.alloc (.view ⟨g,0,none⟩ 5)).cell? ⟨b,1,none⟩=some (.slice (some ⟨g,0,none⟩) 0 0):=by rw[(hb.drew.alloc (.view ⟨g,0,none⟩ 5)).cell];rfl
  have c3:(w.alloc (.view ⟨g,0,none⟩ 5)).drew.cell? ⟨b,1,none⟩=some (.slice (some ⟨g,0,none⟩) 0 0):=c2
  clear hb hg
  go_enter Tryz.func103,Tryz.ntmps103
  go_wp2
  go_region
  all_goals (
    go_wp2
    go_ret
    exact⟨rfl,grown_drew_alloc w _ row⟩)
theorem str_b (w:World) (b:Nat) (p v:Value) (l:List UInt8) (N:Nat) (hb:Bk w b 115 #[p,v]) (ho:w.ownsRow N 5 1 v l.length (bvals l)) :
    Calls Tryz.prog 103 #[.pointer (some ⟨b,0,none⟩)] w fun e w'=>e=.returned (.string ⟨l.toArray⟩)∧w.grownBy w' v.ownBlock:=by
  cases l with
  | cons x r=>
    obtain⟨g,cap,rfl⟩:=own_some ho
    exact strS_some w b g cap p (x::r) hb N ho (by simp)
  | nil=>
    rcases ho.2 with ⟨rfl,_⟩|⟨g,cap,cur,rfl,_,hg,_⟩
    ·exact strS_nil w b p hb _
    ·by_cases hc0:cap=0
     ·subst hc0
      exact strS_noroom w b g p cur hb hg _
     ·exact strS_room w b g cap p hc0 hb _
end Go.Proofs.YtlbfdbinaekjoaaGreatDoor
namespace Go.Proofs.YtlbfdbinaekjoaaGreatDoor
open Go.RowKit
set_option linter.unusedVariables false
set_option linter.unusedSimpArgs false
set_option maxRecDepth 100000
attribute [local go_sem] Oper.semAt_some
structure Bb (B N b0:Nat) (Bw:World) (t:List UInt8) (X:Nat→Prop) (W:World):Prop where
  row:∃p v,(p=.pointer none∨p=.pointer (some ⟨b0,0,none⟩))∧Bk W b0 115 #[p,v]∧W.ownsRow N 5 1 v t.length (bvals t)∧¬X b0∧∀k,v.ownBlock=some k→¬X k
  bl:Below B Bw W
  sz:N≤W.heap.size
  xb:∀k,X k→B≤k∧k<W.heap.size
theorem Bb.fits {α:Type} {B N b0:Nat} {Bw:World} {t:List α→List UInt8} (hB:B≤N):Fits (fun (X:Nat→Prop) (pre:List α) W=>Bb B N b0 Bw (t pre) X W):=by
  rintro X s A C ⟨⟨p,v,h0,h1,h2,h3,h4⟩,h5,h6,h7⟩ hx
  refine⟨⟨p,v,h0,(hx.block _ h1.lt h3).trans h1,⟨h2.1,?_⟩,?_,?_⟩,⟨hx.os.trans h5.1,hx.tape.trans h5.2,hx.output.trans h5.3,Nat.le_trans h5.size hx.size,fun k hk=>?_⟩,Nat.le_trans h6 hx.size,fun k hk=>?_⟩
  ·rcases h2.2 with h|⟨g,cap,cur,he,hg,hh,r⟩
   ·exact .inl h
   ·exact .inr ⟨g,cap,cur,he,hg,(hx.block g (Array.getElem?_eq_some_iff.1 hh).1 (h4 g (by rw[he];rfl))).trans hh,r⟩
  ·rintro (hk|hk)
   ·exact h3 hk
   ·have:=h1.lt;omega
  ·rintro k hk (hk2|hk2)
   ·exact h4 k hk hk2
   ·have:=(h2.lt k hk).2;omega
  ·exact(hx.block k (by have:=h5.size;omega) (fun h=>by have:=(h7 k h).1;omega)).trans (h5.block k hk)
  ·rcases hk with hk|hk
   ·have:=h7 k hk;have:=hx.size;omega
   ·have:=h5.size;omega
theorem bb_own (B N b0:Nat) (Bw:World) (t:List UInt8) (X:Nat→Prop) (M:Nat) (hB:B≤M) (hB2:B≤Bw.heap.size):OwnFrom M (fun (_:Unit) W=>Bb B N b0 Bw t X W):=by
  rintro s W W' row ⟨⟨p,v,h0,h1,h2,h3,h4⟩,h5,h6,h7⟩ hg hr
  refine⟨⟨p,v,h0,h1.grown hg (fun e=>?_),h2.kept hg ?_,h3,h4⟩,h5.grown hg (Nat.le_trans hB2 h5.size) (fun k hk=>Nat.le_trans hB (hr k hk).1),Nat.le_trans h6 hg.size,fun k hk=>⟨(h7 k hk).1,Nat.lt_of_lt_of_le (h7 k hk).2 hg.size⟩⟩
  ·obtain⟨_,o,ho,hc⟩:=hr _ e.symm
   rw[show W.heap[b0]? = _ from h1] at ho
   cases ho
   cases hc
  ·cases hv:v.ownBlock with
   | none=>exact .inl rfl
   | some k=>
     refine .inr (fun e=>?_)
     obtain⟨_,o,ho,hc⟩:=hr k e.symm
     have:=own_not_cells h2 hv ho
     rw[this] at hc
     cases hc
theorem Bb.alloc {B N b0:Nat} {Bw:World} {t:List UInt8} {X:Nat→Prop} {W:World} (h:Bb B N b0 Bw t X W) (hBw:B≤Bw.heap.size) (o:Obj):Bb B N b0 Bw t X (W.alloc o):=by
  obtain⟨⟨p,v,h0,h1,h2,h3⟩,h5,h6,h7⟩:=h
  exact⟨⟨p,v,h0,h1.alloc _,h2.alloc _,h3⟩,h5.alloc (Nat.le_trans hBw h5.size) _,by simp;omega,fun k hk=>⟨(h7 k hk).1,by have:=(h7 k hk).2;simp;omega⟩⟩
theorem Bb.write {B N b0 n₀ M n1:Nat} {Bw:World} {t t':List UInt8} {X:Nat→Prop} {W W':World} {p v v':Value} (h1:Bk W b0 115 #[p,v]) (h2:W.ownsRow N 5 1 v t.length (bvals t)) (h3:¬X b0) (h4:∀k,v.ownBlock=some k→¬X k) (h5:Below B Bw W) (h6:N≤W.heap.size) (h7:∀k,X k→B≤k∧k<W.heap.size)
    (hBw:B≤Bw.heap.size) (hb0:B≤b0) (hb1:b0<n1) (hn:n₀≤N) (hBN:B≤N)
    (hb:Bk W' b0 115 #[.pointer (some ⟨b0,0,none⟩),v']) (ho:W'.ownsRow N 5 1 v' t'.length (bvals t')) (hv:v'.ownBlock=v.ownBlock∨v'.ownBlock=some W.heap.size) (e1:W'.os=W.os) (e2:W'.tape=W.tape) (e3:W'.output=W.output) (hs:W.heap.size≤W'.heap.size) (hk:∀k,k<W.heap.size→k≠b0→some k≠v.ownBlock→W'.heap[k]? = W.heap[k]?) :
    KeepsFrom M W W'∧KeepX n₀ (fun k=>k<n1) W W'∧(∀k,X k→W'.heap[k]? = W.heap[k]?)∧Bb B N b0 Bw t' X W':=by
  have hxk:∀k,X k→W'.heap[k]? = W.heap[k]? := fun k hX=>hk k (h7 k hX).2 (fun e=>h3 (e▸hX)) (fun e=>h4 k e.symm hX)
  refine⟨⟨hs,fun k o _ hko hc=>?_⟩,⟨hs,fun k hkn hkx=>?_⟩,hxk,⟨⟨_,v',.inr rfl,hb,ho,h3,fun k hkv hX=>?_⟩,⟨e1.trans h5.1,e2.trans h5.2,e3.trans h5.3,Nat.le_trans h5.size hs,fun k hkB=>?_⟩,Nat.le_trans h6 hs,fun k hX=>⟨(h7 k hX).1,Nat.lt_of_lt_of_le (h7 k hX).2 hs⟩⟩⟩
  ·have hlt:=(Array.getElem?_eq_some_iff.1 hko).1
   refine(hk k hlt (fun e=>?_) (fun e=>?_)).trans hko
   ·subst e
    rw[show W.heap[k]? = _ from h1] at hko
    cases hko
    cases hc
   ·have:=own_not_cells h2 e.symm hko
    rw[this] at hc
    cases hc
  ·exact hk k (by omega) (by omega) (fun e=>by have:=(h2.lt k e.symm).1;omega)
  ·rcases hv with e|e
   ·exact h4 k (by rw[←e];exact hkv) hX
   ·rw[e] at hkv
    injection hkv with hkv
    have:=(h7 k hX).2
    omega
  ·exact(hk k (by have:=h5.size;omega) (by omega) (fun e=>by have:=(h2.lt k e.symm).1;omega)).trans (h5.block k hkB)
theorem rdr_box2 {w':World} {b c m:Nat} {l:List UInt8} {A:Option Addr} {n:Nat} (hr:Rdr w' w'.heap.size (fun k=>k<n) b l A c m) (hn:n≤w'.heap.size) (W:World) (hW:W=w'.alloc (.cells #[.pointer (some ⟨b,0,none⟩)] 118)) :
    Rdr W W.heap.size (fun k=>k<n) b l A c m∧Bk W w'.heap.size 118 #[.pointer (some ⟨b,0,none⟩)]∧(w'.heap.size<W.heap.size∧¬w'.heap.size<n)∧Below w'.heap.size w' W:=by
  subst hW
  have hb:Below w'.heap.size w' (w'.alloc (.cells #[.pointer (some ⟨b,0,none⟩)] 118)):=Below.alloc (Below.refl _ _) (Nat.le_refl _) _
  exact⟨(hr.below hb (Nat.le_refl _)).weak (fun _ h=>h) hb.size,Bk.new _ _ _,⟨by simp,by omega⟩,hb⟩
theorem txp_len (l:List UInt8) (pre:List Pc) (hl:l.length≤900) (h:∀x∈pre,x.tx.length≤900) (hn:pre.length≤2000):(txL pre).length≤2000000:=by
  have h1:=txL_len pre 900 h
  have h2:=Nat.mul_le_mul_right 900 hn
  omega
set_option maxHeartbeats 4000000 in
theorem bare_m (l:List UInt8) (w:World) (hl:l.length≤900) :
    Calls Tryz.prog 81 #[.string ⟨l.toArray⟩] w fun e w'=>e=.returned (.string ⟨(txL (pcsL l)).toArray⟩)∧Below w.heap.size w w':=by
  have hpl:=pcsL_len l
  have hbw:Bk (w.alloc (.cells #[.pointer none,.slice none 0 0] 115)) w.heap.size 115 #[.pointer none,.slice none 0 0]:=Bk.new _ _ _
  have hbl:Below w.heap.size w (w.alloc (.cells #[.pointer none,.slice none 0 0] 115)):=Below.alloc (Below.refl _ _) (Nat.le_refl _) _
  have H:=Lib.hid (And.intro hbw hbl)
  clear hbw hbl
  refine(callsIn_wide (n:=5)).1 ?_
  refine callsIn_of_wp_marks Tryz.func81 rfl trivial ?_ rfl
  simp only[Tryz.ntmps81,List.size_toArray,List.length_cons,List.length_nil,Nat.reduceAdd,Nat.reduceSub,Array.replicate_succ,Array.replicate_zero,List.push_toArray,List.append_toArray,List.nil_append,List.cons_append]
  gi_wp2_with (first
    | (refine⟨trivial,?_⟩
       gi_at_call 100
       refine(callsIn_wide.2 (read_m _ l hl)).mono ?_
       rintro e w1 ⟨b,c,m,A,rfl,h1,h2⟩
       rw[World.size_alloc] at h1
       have H1:=Lib.hid (And.intro h1 h2)
       clear h1 h2)
    | (refine⟨trivial,?_⟩
       gi_at_call 101
       refine(callsIn_wide.2 (each_m b w1)).mono ?_
       rintro e w2 ⟨rfl,hw2⟩
       have hs1:w.heap.size+1≤w1.heap.size:=by have:=H1.out.2.size;simpa using this
       have H2:=Lib.hid (rdr_box2 H1.out.1 hs1 w2 hw2)
       clear hw2))
  obtain⟨hrd,hrb,hrn,hb2⟩:=H2.out
  have hs2:=hrn.1
  have hs3:=hrn.2
  have hbw2:Bk w2 w.heap.size 115 #[.pointer none,.slice none 0 0]:=(H.out.1.below H1.out.2 (by simp)).below hb2 (by omega)
  have hBW:Below w.heap.size w w2:=(H.out.2.trans (H1.out.2.mono (by simp))).trans (hb2.mono (by omega))
  have HT:=Lib.hid (fun pre (h:pre<+:pcsL l)=>txp_len l pre hl (fun x hx=>Nat.le_trans (pcsL_tx l x (h.subset hx)) hl) (by have:=h.length_le;omega))
  have HX:=Lib.hid (pcsL_tx l)
  refine rangeFunc_x (by omega) (gf:=134) (lb:=#[.pointer (some ⟨w1.heap.size,0,none⟩)]) rfl (enters_of Tryz.func134 (by kernel_rfl) rfl)
    (each_seq w2.heap.size w1.heap.size b c m (fun k=>k<w.heap.size+1) l A hl w2 hrd hrb hrn (Nat.le_refl _)) (fun h k=>h.trans k) (fun W l o o' hl h1 h2 h3=>keepX_put W l o o' hl h1 h2 h3) (Below.refl _ _) (fun _=>rfl)
    (fun X pre W=>Bb w.heap.size w2.heap.size w.heap.size w (txL pre) X W∧(txL pre).length≤pre.length*900)
    (fun _ _ _ _=>False)
    ?fits (fun _ _ _ _ _ h _=>h) ?own (fun _ _ _ _ _ _ h _ _=>h)
    ⟨⟨⟨_,_,.inl rfl,hbw2,World.ownsRow_nil _ _ _ _,fun h=>h,fun _ _ h=>h⟩,hBW,Nat.le_refl _,fun _ h=>h.elim⟩,by simp[txL]⟩
    (fun x a' W=>x.tx.length≤900∧∃bb,Bk W bb 122 (pcc x).toArray∧a'={tmps:=#[.string ⟨l.toArray⟩,undef,.string ⟨#[]⟩,.pointer (some ⟨w.heap.size,0,none⟩),.pointer (some ⟨bb,0,none⟩),.string ⟨l.toArray⟩,.pointer (some ⟨b,0,none⟩),.func (.func 134) #[] #[.pointer (some ⟨w1.heap.size,0,none⟩)],.agg #[.bool x.ex,.bool x.qu,.string ⟨x.tx.toArray⟩],undef,undef,undef,undef],defers:=[]})
    (fun x a'=>OwnFrom.and (fun _ _ _ _ h _ _=>h) (bk_own _ _ _ _)) ?assign ?body ?done ?stop
  case fits=>
    rintro X s A C ⟨h1,h2⟩ hx
    exact⟨Bb.fits (t:=txL) (by omega) X s A C h1 hx,h2⟩
  case own=>
    rintro X s W W' row ⟨h1,h2⟩ hg hr
    exact⟨bb_own _ _ _ _ _ X _ (by omega) (Nat.le_refl _) () W W' row h1 hg hr,h2⟩
  case assign=>
    rintro l' X pre x W K ⟨hI,hI2⟩ hpx hK
    gi_wp2
    have hx9:x.tx.length≤900:=Nat.le_trans (HX.out x (hpx.subset (by simp))) hl
    exact hK _ _ (keepsFrom_below (Below.alloc (Below.refl _ _) (Nat.le_refl _) _)) (KeepX.of_below (Below.alloc (Below.refl _ _) (Nat.le_refl _) _) hI.sz) (fun k hk=>Below.heap_alloc _ _ _ (hI.xb k hk).2) ⟨hI.alloc (Nat.le_refl _) _,hI2⟩ ⟨hx9,_,Bk.new _ _ _,rfl⟩
  case body=>
    rintro l' X pre x a' W hl1 hl2 ⟨⟨⟨p,v,hp,h1,h2,h3,h4⟩,h5,h6,h7⟩,ht⟩ ⟨hx9,bb,hbk,rfl⟩ hpx
    have hpn:pre.length+1≤2000:=by have:=hpx.length_le;simp at this;omega
    have hlen:(txL pre).length+x.tx.length≤100000000:=by omega
    obtain⟨x0,x1,x2,_⟩:=(show Bk W bb 122 #[.bool x.ex,.bool x.qu,.string ⟨x.tx.toArray⟩] from hbk).three
    have HW:=Lib.hid (And.intro hp (And.intro h1 (And.intro h2 (And.intro h3 (And.intro h4 (And.intro h5 (And.intro h6 h7)))))))
    clear hp h1 h2 h3 h4 h5 h6 h7 hpx hbk hl2
    gi_wp2_with (
      (refine⟨trivial,?_⟩
       gi_at_call 102
       obtain⟨hp,h1,h2,h3,h4,h5,h6,h7⟩:=HW.out
       refine(in_round (write_b W w2.heap.size w.heap.size p v (txL pre) x.tx hp h1 h2 h6 hlen)).mono ?_
       rintro e W' ⟨rfl,v',q1,q2,q3,q4,q5,q6,q7,q8⟩
       have H8:=Lib.hid (Bb.write (M:=w2.heap.size) (n₀:=w2.heap.size) (n1:=w.heap.size+1) h1 h2 h3 h4 h5 h6 h7 (Nat.le_refl _) (Nat.le_refl _) (by omega) (Nat.le_refl _) (by omega) q1 q2 q3 q4 q5 q6 q7 q8)
       clear q1 q2 q3 q4 q5 q6 q7 q8 hp h1 h2 h3 h4 h5 h6 h7))
    obtain⟨q1,q2,q3,q4⟩:=H8.out
    exact⟨q1,q2,q3,by rw[txL_snoc];exact q4,by rw[txL_snoc,List.length_append,List.length_append];simp only[List.length_cons,List.length_nil];omega⟩
  case done=>
    rintro D X ys W hD rfl ⟨⟨⟨p,v,hp,h1,h2,h3,h4⟩,h5,h6,h7⟩,ht⟩ hK
    have HD:=Lib.hid (And.intro h5 (And.intro h2 (And.intro hK h1)))
    clear hp h1 h2 h3 h4 h5 hK
    gi_wp2_with (
      (refine⟨trivial,?_⟩
       gi_at_call 103
       refine(callsIn_wide.2 (str_b W w.heap.size p v (txL (pcsL l)) w2.heap.size HD.out.2.2.2 HD.out.2.1)).mono ?_
       rintro e W3 ⟨rfl,hg⟩
       have hK3:W3.heap[D]? = some (.deferred (some [])):=(hg.block D (Array.getElem?_eq_some_iff.1 HD.out.2.2.1).1 (fun e=>by have:=own_not_cells HD.out.2.1 e.symm HD.out.2.2.1;cases this)).trans HD.out.2.2.1
       have hb3:Below w.heap.size w W3:=HD.out.1.grown hg (by have:=HD.out.1.size;omega) (fun k hk=>by have:=(HD.out.2.1.lt k hk).1;omega)
       have hbk:=belowK_b (w:=w) (Nat.le_refl _) W3 D (.deferred (some [])) (.deferred none) (by omega) hK3 rfl rfl
       have H3:=Lib.hid (And.intro hb3 (And.intro hbk hK3))
       clear hg hK3 hb3 hbk))
    refine⟨by simp,.inl ⟨_,_,rfl,run_takeDeferred H3.out.2.2,?_⟩⟩
    exact⟨_,by simp[results,Tryz.results81,go_sem],⟨rfl,H3.out.1.trans H3.out.2.1⟩⟩
  case stop=>
    intro D c X pre W _ _ h _
    exact h.elim
end Go.Proofs.YtlbfdbinaekjoaaGreatDoor
