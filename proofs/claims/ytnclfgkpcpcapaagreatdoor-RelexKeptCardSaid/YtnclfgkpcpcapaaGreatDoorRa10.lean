/- Chapter 10: what its laws share: edits in memory, short, right, awake, and Apply of any edit. -/
import Derived.Test.YtnclfgkpcpcapaaGreatDoorAp2
import Derived.Deep.DeepCutAuto
import Derived.Deep.CutBlock
namespace Go.Proofs.YtnclfgkpcpcapaaGreatDoor
open Go.RowKit
set_option linter.unusedVariables false
set_option linter.unusedSimpArgs false
set_option maxRecDepth 100000
theorem plc_lex1 (l:List UInt8):∀x X,(lexA l x X).1=(plcA l x X).map Prod.fst:=
  plc_ind l (fun x X h=>by rw[lexA_eq,plcA_eq,if_neg h,if_neg h];rfl) (fun x X h ih=>by rw[lexA_eq,plcA_eq,if_pos h,if_pos h];simp[ih])
theorem tail_uniq {e:Ed} {T T':Nat} (h:TailP e T) (h':TailP e T'):T=T':=by
  rcases h.w with ⟨rfl,h1⟩|⟨i,j,h1,h2,rfl⟩
  ·rcases h'.w with ⟨rfl,_⟩|⟨i,j,h3,_,rfl⟩
   ·rfl
   ·exact absurd h3 (h1 i j)
  ·rcases h'.w with ⟨rfl,h3⟩|⟨i',j',h3,h4,rfl⟩
   ·exact absurd h1 (h3 i j)
   ·have:=h2 _ _ h3
    have:=h4 _ _ h1
    rw[show i=i' by omega]
structure Ez where
  a:Int
  d:List UInt8
  i:List UInt8
  ha : -9223372036854775808≤a∧a≤9223372036854775807
theorem ez_row (r:List Value) (hl:r.length=[FK.i,FK.s,FK.s].length) (h:Qk [.i,.s,.s] r):∃x:Ez,r=[.int .i64 x.a,.string ⟨x.d.toArray⟩,.string ⟨x.i.toArray⟩]:=by
  obtain⟨v0,h0,n,rfl,hn⟩:=h 0 .i rfl
  obtain⟨v1,h1,l,rfl,_⟩:=h 1 .s rfl
  obtain⟨v2,h2,m,rfl,_⟩:=h 2 .s rfl
  match r,hl with
  | [x,y,z],_=>
    simp at h0 h1 h2
    subst h0 h1 h2
    exact⟨⟨n,l,m,hn⟩,rfl⟩
theorem DocP.next {w w':World} {g:Nat} {l:List UInt8} (h:DocP w g l) (hb:Below w.heap.size w w'):DocP w' g l:=by
  obtain⟨xs,lv,pv,h1,h2,h3⟩:=h
  exact⟨xs,lv,pv,h1,h2.below hb,h3.next hb⟩
def ed0:Ed:=⟨[97,32],[98],[98,98],[32,99]⟩
theorem ed0_tail {T:Nat} (h:TailP ed0 T):T=2:=by
  refine tail_uniq h ⟨.inr ⟨3,3,⟨(⟨1,3,4,false⟩,lx0),(⟨1,4,5,false⟩,lx0),by kernel_rfl,by kernel_rfl,Nat.le_refl _,rfl,rfl⟩,fun i' j' hm=>?_,by kernel_rfl⟩⟩
  obtain⟨p,q,h1,_,h3,_⟩:=hm.w
  replace h3:3≤p.1.fr:=h3
  have e0:(plcs ed0.old)[0]? = some (⟨6,0,1,false⟩,lx0):=by kernel_rfl
  have e1:(plcs ed0.old)[1]? = some (⟨1,1,2,false⟩,lx0):=by kernel_rfl
  have e2:(plcs ed0.old)[2]? = some (⟨6,2,3,false⟩,lx0):=by kernel_rfl
  refine Nat.le_of_not_lt fun hi=>?_
  have h4:i'=0∨i'=1∨i'=2:=by omega
  rcases h4 with rfl|rfl|rfl
  ·rw[e0] at h1;injection h1 with h1;subst h1;exact absurd h3 (by decide)
  ·rw[e1] at h1;injection h1 with h1;subst h1;exact absurd h3 (by decide)
  ·rw[e2] at h1;injection h1 with h1;subst h1;exact absurd h3 (by decide)
set_option maxHeartbeats 4000000 in
theorem awake10_c (w:World):Calls Tryz.prog 4 #[] w fun e w'=>e=.returned (.bool true)∧Below w.heap.size w w':=by
  have hA:∀g W,DocP W g [97,32,98,32,99]→Calls Tryz.prog 8 #[.pointer (some ⟨g,0,none⟩),.agg #[.int .i64 2,.string ⟨#[98]⟩,.string ⟨#[98,98]⟩]] W fun e w'=>e=.returned (.tuple #[.agg #[.int .i64 0,.int .i64 2],.int .i64 0])∧(∃xs lv pv X,xs.length=5∧DocR w' g ed0.new X xs lv pv∧Rt w' 52 7 lv xs.length (pvs xs))∧W.grownBy w' (some g):=by
    intro g W hD
    refine(apply_ok g ed0 W hD (by decide) (by decide) (by decide) (by decide)).mono ?_
    rintro e w' ⟨T,hT,rfl,⟨xs,lv,pv,h1,h2,h3⟩,hg⟩
    obtain rfl:=ed0_tail hT
    have hl:(plcs ed0.new).length=5:=by kernel_rfl
    have h0:hdN ed0.old ed0.a.length=0:=by kernel_rfl
    rw[h0]
    exact⟨rfl,⟨xs,lv,pv,_,by rw[(prx_len h1).1,hl],h2,h3⟩,hg⟩
  have HM:=Lib.hid hA
  clear hA
  go_enter Tryz.func4,Tryz.ntmps4
  go_wp2_with (first
    | (go_at_call 6
       refine(new10_m [97,32,98,32,99] _ (by decide)).mono ?_
       rintro e w1 ⟨g,rfl,hg,hD,hb⟩
       have H:=Lib.hid (And.intro hD (And.intro hb hg))
       clear hg hD hb)
    | (go_at_call 8
       with_reducible refine(HM.out g _ H.out.1).mono ?_
       rintro e w2 ⟨rfl,⟨xs,lv,pv,X,hx,hD,hr⟩,hg⟩
       have H2:=Lib.hid (And.intro hD (And.intro hr (And.intro hx (Below.grown H.out.2.1 hg H.out.2.1.size (fun k hk=>by injection hk with hk;have:=H.out.2.2;omega)))))
       clear hD hr hg hx)
    | (go_at_call 7
       with_reducible refine(tokens_m g ed0.new X xs lv pv _ (H2.out.1.below ((Below.refl _ _).alloc (Nat.le_refl _) _)) (H2.out.2.1.next ((Below.refl _ _).alloc (Nat.le_refl _) _)) (by have:=H2.out.2.2.1;omega)).mono ?_
       rintro e w3 ⟨v,rfl,ho,hb⟩
       obtain⟨A,n,c,rfl⟩:=own_form' ho
       obtain rfl:=own_len ho
       have hx5:=H2.out.2.2.1
       have u5:((xs.length:Nat):Int)=5:=by omega
       have H3:=Lib.hid hb
       clear ho hb hx5))
  go_ret
  refine⟨?_,?_⟩
  ·rfl
  ·have h:=H2.out.2.2.2
   have h2:=h.alloc h.size (.cells #[.int .i64 0,.int .i64 2] 33)
   exact h2.trans (H3.out.mono h2.size)
end Go.Proofs.YtnclfgkpcpcapaaGreatDoor
namespace Go.Proofs.YtnclfgkpcpcapaaGreatDoor
open Go.RowKit Go.ChangeShapes Go.WideShapes Go.Deep
set_option linter.unusedVariables false
set_option maxRecDepth 100000
end Go.Proofs.YtnclfgkpcpcapaaGreatDoor
namespace Go.Proofs.YtnclfgkpcpcapaaGreatDoor
open Go.RowKit
set_option linter.unusedVariables false
set_option linter.unusedSimpArgs false
set_option maxRecDepth 100000
theorem tkp_doc {l:List UInt8} {xs:List PV} (hpr:prx xs=plcs l):tkp xs=(lexL l).1:=by
  have h1:=plc_lex1 l 0 lx0
  have h2:=congrArg (List.map Prod.fst) hpr
  rw[show (lexL l).1=(lexA l 0 lx0).1 from rfl,h1,←h2]
  simp[tkp,prx]
theorem dtok_m (g:Nat) (l:List UInt8) (w:World) (hD:DocP w g l) (hl:l.length≤900) :
    Calls Tryz.prog 7 #[.pointer (some ⟨g,0,none⟩)] w fun e w'=>∃v,e=.returned v∧w'.ownsRow w.heap.size 40 4 v (lexL l).1.length (tkcs (lexL l).1)∧Below w.heap.size w w':=by
  obtain⟨xs,lv,pv,hpr,hD,hr⟩:=hD
  obtain⟨hlen1,hlen2⟩:=prx_len hpr
  have h:=tokens_m g l _ xs lv pv w hD hr (by omega)
  rw[tkp_doc hpr] at h
  have htl:(lexL l).1.length=xs.length:=by rw[←tkp_doc hpr];simp[tkp]
  rwa [←htl] at h
structure UnI (w:World) (g bx:Nat) (l:List UInt8) (x:Ez) (N:Nat) (ts:List Tk) (v v3:Value) (Y:Lx) (W:World):Prop where
  doc:DocP W g l
  be:Bk W w.heap.size 23 #[.int .i64 x.a,.string ⟨x.d.toArray⟩,.string ⟨x.i.toArray⟩]
  bx:Bk W bx 45 #[.int .i64 Y.aw,v3,.bool Y.bd]
  row:W.ownsRow w.heap.size 40 4 v N (tkcs ts)
  rt:Rt W 73 2 v3 Y.pd.length (dcls Y.pd)
  hb:Below w.heap.size w W
theorem UnI.below {w:World} {g bx:Nat} {l:List UInt8} {x:Ez} {N:Nat} {ts:List Tk} {v v3:Value} {Y:Lx} {W W':World} (h:UnI w g bx l x N ts v v3 Y W) (hb:Below W.heap.size W W'):UnI w g bx l x N ts v v3 Y W':=
  ⟨h.doc.next hb,h.be.below hb h.be.lt,h.bx.below hb h.bx.lt,own_below h.row hb,h.rt.next hb,h.hb.trans (hb.mono h.hb.size)⟩
theorem UnI.apply {w:World} {g bx:Nat} {l l':List UInt8} {x:Ez} {N:Nat} {ts:List Tk} {v v3:Value} {Y:Lx} {W W':World} (h:UnI w g bx l x N ts v v3 Y W) (hgw:w.heap.size≤g) (hg:W.grownBy W' (some g)) (hD:DocP W' g l'):UnI w g bx l' x N ts v v3 Y W':=by
  obtain⟨xs,lv,pv,h1,h2,h3⟩:=h.doc
  have n1:w.heap.size≠g:=bk_ne h.be h2.bk (by decide)
  have n2:bx≠g:=bk_ne h.bx h2.bk (by decide)
  exact⟨hD,h.be.grown hg (fun e=>n1 (by injection e)),h.bx.grown hg (fun e=>n2 (by injection e)),h.row.kept hg (.inr (fun e=>own_ne h.row h2.bk (by decide) e)),
    h.rt.keep hg (fun k hk=>by injection hk with hk;subst hk;exact⟨_,_,_,h2.bk,by decide⟩),Below.grown h.hb hg h.hb.size (fun k hk=>by injection hk with hk;omega)⟩
theorem okE_of (e:Ed):okE e.old e.d (e.a.length:Int)=true∧newL e.old e.d e.i (e.a.length:Int)=e.new:=by
  have h1:e.old.drop e.a.length=e.d++e.c:=by unfold Ed.old;rw[List.drop_left]
  refine⟨?_,?_⟩
  ·rw[okE_cut (by unfold Ed.old;simp only[List.length_append];omega) (by unfold Ed.old;simp only[List.length_append];omega),h1,List.take_left]
   simp
  ·unfold newL Ed.new
   rw[Int.toNat_natCast,←List.drop_drop,h1,List.drop_left]
   unfold Ed.old
   rw[List.take_left]
end Go.Proofs.YtnclfgkpcpcapaaGreatDoor
namespace Go.Proofs.YtnclfgkpcpcapaaGreatDoor
open Go.RowKit
set_option linter.unusedVariables false
set_option linter.unusedSimpArgs false
set_option maxRecDepth 100000
attribute [-go_sem] Builtin.append_
section
variable {wr w5:World} {t1 t2:TypeId} {a0 a1 a2 a3 d0 d1 d2 u0 u1 u2 u3 z0 z1 z2:Value}
end
theorem tkc_len1 (t:Tk):(tkc t).length=4:=rfl
structure LV where
  X:Lx
  v:Value
def lvc (q:LV):List Value:=[.int .i64 q.X.aw,q.v,.bool q.X.bd]
theorem lvc_len (q:LV):(lvc q).length=3:=rfl
def lvcs (L:List LV):List Value:=L.flatMap lvc
theorem lvcs_app (a b:List LV):lvcs (a++b)=lvcs a++lvcs b:=by simp[lvcs]
theorem Tryz.infoLex:(Tryz.prog.info? 45).map (fun i=>(i.zero,i.size,i.bytes))=some (some (.agg #[.int .i64 0,.slice none 0 0,.bool false]),3,40):=by kernel_rfl
theorem own_arr (w:World) (B:Nat) (e:TypeId) (sz n:Nat) (cs:List Value) (hB:B≤w.heap.size) (h:cs.length=n*sz) (hn:n≤1000):(w.alloc (.cells cs.toArray e)).ownsRow B e sz (.slice (some ⟨w.heap.size,0,none⟩) n n) n cs:=
  ⟨h,.inr ⟨w.heap.size,n,cs.toArray,rfl,hB,Bk.new _ _ _,Nat.le_refl _,by unfold maxLen;omega,by simp[h],by have:=List.take_of_length_le (l:=cs) (i:=n*sz) (by omega);simpa [h] using this⟩⟩
set_option maxHeartbeats 4000000 in
theorem rahead_m (l:List UInt8) (w:World) (hl:l.length≤900) :
    Calls Tryz.prog 21 #[.string ⟨l.toArray⟩] w fun e w'=>∃(v:Value) (qs:List LV),e=.returned v∧w'.ownsRow w.heap.size 45 3 v qs.length (lvcs qs)∧qs.length=(plcs l).length+1∧(∀i q,qs[i]? = some q→q.X=(stF l i 0 lx0).2∧Rt w' 73 2 q.v q.X.pd.length (dcls q.X.pd))∧Below w.heap.size w w':=by
  obtain⟨i0,hi0,hz0,hz1,hz2⟩:=info_parts Tryz.infoLex
  have tlen:=lexL_len l
  obtain⟨ts,hts⟩:∃ts,ts=(lexL l).1:=⟨_,rfl⟩
  obtain⟨Z,hZ⟩:∃Z,Z=(lexL l).2:=⟨_,rfl⟩
  have c2:∀W,Calls Tryz.prog 20 #[.string ⟨l.toArray⟩] W fun e w'=>∃v1 v2,e=.returned (.tuple #[v1,v2])∧w'.ownsRow W.heap.size 40 4 v1 ts.length (tkcs ts)∧LxP w' Z v2∧Below W.heap.size W w':=fun W=>by rw[hts,hZ];exact rlex_m l W hl
  rw[←hts] at tlen
  have hmap:ts=(plcs l).map Prod.fst:=hts.trans (plc_lex1 l 0 lx0)
  have hpl:(plcs l).length=ts.length:=by rw[hmap];simp
  rw[hpl]
  have HC:=Lib.hid (And.intro c2 (And.intro hmap hZ))
  clear c2 hts hZ hmap hpl
  go_enter Tryz.func21,Tryz.ntmps21
  go_wp2_with (first
    | (go_at_call 20
       with_reducible refine(HC.out.1 _).mono ?_
       rintro e w4 ⟨v1,v2,rfl,ho,⟨v3,rfl,hr⟩,hb4⟩
       obtain⟨A5,c5,rfl⟩:=hr.form
       unfold lxv
       obtain⟨A,n,c,rfl⟩:=own_form' ho
       obtain rfl:=own_len ho
       have H4:=Lib.hid (And.intro (Rt.of_own ho) hb4)
       clear ho hb4 hr))
  have hN:=H4.out.2.size
  go_loopw [6,7] (fun o6 i wr=>∃(k x:Nat) (X:Lx) (A1:Option Addr) (c1:Nat) (qs:List LV) (Ao:Option Addr) (no co:Nat),o6=.slice Ao no co∧k≤ts.length∧i=.int .i64 k∧stF l k 0 lx0=(x,X)∧LInv X x∧x≤l.length ∧
    Bk wr (w4.heap.size+1) 45 #[.int .i64 X.aw,.slice A1 X.pd.length c1,.bool X.bd]∧Rt wr 73 2 (.slice A1 X.pd.length c1) X.pd.length (dcls X.pd) ∧
    Rt wr 40 4 (.slice A ts.length c) ts.length (tkcs ts)∧wr.ownsRow w.heap.size 45 3 (.slice Ao no co) qs.length (lvcs qs)∧(Value.slice Ao no co).ownBlock≠some (w4.heap.size+1)∧qs.length=k+1∧(∀i q,qs[i]? = some q→q.X=(stF l i 0 lx0).2∧Rt wr 73 2 q.v q.X.pd.length (dcls q.X.pd))∧Below w.heap.size w wr) (fun o6 i _=>ts.length-(intOf i).toNat)
  case atStart=>
    have b1:=H4.out.2.alloc hN (.cells #[.int .i64 Z.aw,.slice A5 Z.pd.length c5,.bool Z.bd] 45)
    have b2:=b1.alloc b1.size (.cells #[.int .i64 0,.slice none 0 0,.bool false] 45)
    have b3:=b2.alloc b2.size (.cells #[.int .i64 0,.slice none 0 0,.bool false] 45)
    have e3:=own_arr ((w4.alloc (.cells #[.int .i64 Z.aw,.slice A5 Z.pd.length c5,.bool Z.bd] 45)).alloc (.cells #[.int .i64 0,.slice none 0 0,.bool false] 45)) w.heap.size 45 3 1 (lvcs [⟨lx0,.slice none 0 0⟩]) b2.size rfl (by omega)
    rw[show ((w4.alloc (.cells #[.int .i64 Z.aw,.slice A5 Z.pd.length c5,.bool Z.bd] 45)).alloc (.cells #[.int .i64 0,.slice none 0 0,.bool false] 45)).heap.size=w4.heap.size+1+1 by simp] at e3
    refine⟨0,0,lx0,none,0,[⟨lx0,.slice none 0 0⟩],some ⟨w4.heap.size+1+1,0,none⟩,1,1,rfl,Nat.zero_le _,rfl,rfl,⟨(fun h=>by cases h),Nat.le_refl _⟩,Nat.zero_le _,(bk_second w4 _ _ _ _).alloc _,Rt.nil _ _ _,((H4.out.1.next (Below.alloc (Below.refl _ _) (Nat.le_refl _) _)).next (Below.alloc (Below.refl _ _) (Nat.le_refl _) _)).next (Below.alloc (Below.refl _ _) (Nat.le_refl _) _),e3,?_,rfl,fun i q hq=>?_,b3⟩
    ·simp[Value.ownBlock]
    ·have:i=0:=by have:=(List.getElem?_eq_some_iff.1 hq).1;simpa using this
     subst this
     simp at hq
     subst hq
     exact⟨rfl,Rt.nil _ _ _⟩
  case round=>
    obtain⟨k,x,X,A1,c1,qs,Ao,no,co,rfl,hk,rfl,hst,hinv,hx,kx,rx,rt,hq,hqb,hql,hqs,hb⟩:=hrel
    obtain⟨p0,p1,p2,_⟩:=kx.three
    by_cases hlt:k<ts.length
    ·have u1:(k:Int)<(ts.length:Int):=by omega
     have u2:(0:Int)≤(k:Int):=by omega
     obtain⟨⟨kd,fr,tt,op⟩,hget⟩:∃t,ts[k]? = some t:=⟨_,List.getElem?_eq_getElem hlt⟩
     have hget2:=hget
     rw[HC.out.2.1] at hget2
     obtain⟨rfl,hxl,hto2,hto1,Y,hstep,hs1,hinv2⟩:=plc_step hst hinv hget2
     clear hget2
     have hxpd:X.pd.length≤10000:=by have:=hinv.2;omega
     have hm1:∀W,Rt W 73 2 (.slice A1 X.pd.length c1) X.pd.length (dcls X.pd)→Calls Tryz.prog 30 #[.string ⟨l.toArray⟩,.int .i64 (fr:Int),.agg #[.int .i64 X.aw,.slice A1 X.pd.length c1,.bool X.bd]] W fun e w'=>∃v,e=.returned (.tuple #[.agg #[.int .i64 (kd:Int),.int .i64 (fr:Int),.int .i64 (tt:Int),.bool op],v])∧LxP w' Y v∧Below W.heap.size W w':=fun W h=>by
       have:=rstep_all l fr X hl hxl hinv.1 A1 c1 W h hxpd
       rw[hstep] at this
       exact this
     clear hst hinv hstep
     obtain⟨g,o,rfl,hgl,hc⟩:=rd_sat tkc_len1 rt.rd hget rfl
     have y0:wr.cell? ⟨g,o+k*4,none⟩=some (.int .i64 (kd:Int)):=hc 0 _ rfl
     have y1:wr.cell? ⟨g,o+k*4+1,none⟩=some (.int .i64 (fr:Int)):=hc 1 _ rfl
     have y2:wr.cell? ⟨g,o+k*4+2,none⟩=some (.int .i64 (tt:Int)):=hc 2 _ rfl
     have y3:wr.cell? ⟨g,o+k*4+3,none⟩=some (.bool op):=hc 3 _ rfl
     have cells:∀W,Rt W 40 4 (.slice (some ⟨g,o,none⟩) ts.length c) ts.length (tkcs ts)→W.cell? ⟨g,o+k*4,none⟩=some (.int .i64 (kd:Int))∧W.cell? ⟨g,o+k*4+1,none⟩=some (.int .i64 (fr:Int))∧W.cell? ⟨g,o+k*4+2,none⟩=some (.int .i64 (tt:Int))∧W.cell? ⟨g,o+k*4+3,none⟩=some (.bool op):=fun W h=>by
       obtain⟨g',o',he,_,hc'⟩:=rd_sat tkc_len1 h.rd hget rfl
       injection he with he
       injection he with h1 h2
       subst h1 h2
       exact⟨hc' 0 _ rfl,hc' 1 _ rfl,hc' 2 _ rfl,hc' 3 _ rfl⟩
     have HM:=Lib.hid (And.intro hm1 (And.intro hs1 (And.intro hinv2 cells)))
     have HR:=Lib.hid (And.intro kx (And.intro rx (And.intro rt (And.intro hq (And.intro hqb (And.intro hql (And.intro hqs hb)))))))
     clear hm1 hs1 hinv2 kx rx rt hb hc hget cells hq hqb hql hqs
     have hsz1:w4.heap.size+1<wr.heap.size:=HR.out.1.lt
     have hsz2:w4.heap.size+1<wr.heap.size+1:=by omega
     have hgl2:g<wr.heap.size+1:=by omega
     have hgn:¬g=wr.heap.size:=by omega
     have hgm:¬g=wr.heap.size+1:=by omega
     have hxn:¬w4.heap.size+1=wr.heap.size:=by omega
     have hxm:¬w4.heap.size+1=wr.heap.size+1:=by omega
     go_upto_region 7 with fail
     go_cut [8,9] (fun s t wx=>∃(w5:World) (A6:Option Addr) (c6:Nat),Two wr w5 wx s t 40 45 #[.int .i64 (kd:Int),.int .i64 (fr:Int),.int .i64 (tt:Int),.bool op] #[.int .i64 Y.aw,.slice A6 Y.pd.length c6,.bool Y.bd]∧Rt w5 73 2 (.slice A6 Y.pd.length c6) Y.pd.length (dcls Y.pd))
     case first=>
       go_region_held3 (fun w'=>w'.cell? ⟨g,o+k*4+1,none⟩=some (.int .i64 (fr:Int))∧w'.cell? ⟨w4.heap.size+1,0,none⟩=some (.int .i64 X.aw)∧w'.cell? ⟨w4.heap.size+1,1,none⟩=some (.slice A1 X.pd.length c1)∧w'.cell? ⟨w4.heap.size+1,2,none⟩=some (.bool X.bd))
        (first
         | with_reducible exact⟨y1,p0,p1,p2⟩
         | (try dsimp only
            repeat' (first
              | with_reducible assumption
              | with_reducible apply And.intro
              | with_reducible refine keep_new ?_
              | with_reducible refine keep_far ?_ (by omega)
              | with_reducible refine keep_drew ?_)))
        (
         (go_at_call 30
          with_reducible refine(HM.out.1 _ ?_).mono ?_
          ·exact HR.out.2.1.next (by go_grown)
          rintro e w5 ⟨v,rfl,⟨v1,rfl,hr5⟩,hb5⟩
          obtain⟨A6,c6,rfl⟩:=hr5.form
          unfold lxv
          try have HT:=Lib.hid (Bk.below (w:=(wr.alloc (.cells #[.int .i64 0,.int .i64 0,.int .i64 0,.bool false] 40)).drew) (Bk.new wr 40 #[.int .i64 0,.int .i64 0,.int .i64 0,.bool false]) hb5 (by simp<;>omega))
          try have HL:=Lib.hid (Bk.below (w:=(wr.alloc (.cells #[.int .i64 0,.slice none 0 0,.bool false] 45)).drew) (Bk.new wr 45 #[.int .i64 0,.slice none 0 0,.bool false]) hb5 (by simp<;>omega))
          try have HT:=Lib.hid (Bk.below (w:=((wr.alloc (.cells #[.int .i64 0,.int .i64 0,.int .i64 0,.bool false] 40)).alloc (.cells #[.int .i64 0,.slice none 0 0,.bool false] 45)).drew) ((Bk.new wr 40 #[.int .i64 0,.int .i64 0,.int .i64 0,.bool false]).alloc _) hb5 (by simp<;>omega))
          try have HL:=Lib.hid (Bk.below (w:=((wr.alloc (.cells #[.int .i64 0,.int .i64 0,.int .i64 0,.bool false] 40)).alloc (.cells #[.int .i64 0,.slice none 0 0,.bool false] 45)).drew) (bk_second wr _ _ _ _) hb5 (by simp<;>omega))
          try have HL:=Lib.hid (Bk.below (w:=((wr.alloc (.cells #[.int .i64 0,.slice none 0 0,.bool false] 45)).alloc (.cells #[.int .i64 0,.int .i64 0,.int .i64 0,.bool false] 40)).drew) ((Bk.new wr 45 #[.int .i64 0,.slice none 0 0,.bool false]).alloc _) hb5 (by simp<;>omega))
          try have HT:=Lib.hid (Bk.below (w:=((wr.alloc (.cells #[.int .i64 0,.slice none 0 0,.bool false] 45)).alloc (.cells #[.int .i64 0,.int .i64 0,.int .i64 0,.bool false] 40)).drew) (bk_second wr _ _ _ _) hb5 (by simp<;>omega))
          try obtain⟨t4,t5,t6,t7,t0,t1,t2,t3⟩:=HT.out.four
          try obtain⟨s3,s4,s5,s0,s1,s2⟩:=HL.out.three
          have gl5:g<w5.heap.size:=by have:=hb5.size;simp at this;omega
          have gx5:w4.heap.size+1<w5.heap.size:=by have:=hb5.size;simp at this;omega
          have gl6:g<w5.heap.size+1:=by omega
          have gx6:w4.heap.size+1<w5.heap.size+1:=by omega
          have gn5:¬g=w5.heap.size:=by omega
          have gy5:¬w4.heap.size+1=w5.heap.size:=by omega
          have gn6:¬g=w5.heap.size+1:=by omega
          have gy6:¬w4.heap.size+1=w5.heap.size+1:=by omega
          try have ltw:wr.heap.size<w5.heap.size:=by have:=hb5.size;simp at this;omega
          try have ltv:wr.heap.size+1<w5.heap.size:=by have:=hb5.size;simp at this;omega
          try have lne:¬w5.heap.size=wr.heap.size:=by omega
          try have lnf:¬wr.heap.size=w5.heap.size:=by omega
          have hbx:Below wr.heap.size wr w5:=(show Below wr.heap.size wr _ by go_grown).trans (hb5.mono (by simp<;>omega))
          have kx:=HR.out.1.below hbx HR.out.1.lt
          obtain⟨y0,y1,y2,y3⟩:=HM.out.2.2.2 _ (HR.out.2.2.1.next hbx)
          obtain⟨p0,p1,p2,_⟩:=kx.three
          have H5:=Lib.hid (And.intro hr5 (And.intro hb5 hbx))
          clear hr5 hb5 hbx kx))
       all_goals (
         go_wp2_with fail
         go_meet
         obtain⟨hr5,hb5,hbx⟩:=H5.out
         refine⟨w5,A6,c6,?_,hr5⟩)
       ·exact two1 hbx
       ·exact two2 hbx
       ·exact two3 HT.out hbx (Nat.le_refl _)
       ·exact two4 HT.out HL.out (by omega) hbx (Nat.le_refl _) (by omega)
       ·exact two5 HL.out hbx (Nat.le_refl _)
       ·exact two4 HT.out HL.out (by omega) hbx (by omega) (Nat.le_refl _)
     case rest=>
       obtain⟨w5,A6,c6,⟨b1,b2,rfl,rfl,kT,kZ,hb12,hw1,hw2,hbc,hkeep⟩,hr5⟩:=hcut
       have rz:=hkeep _ _ _ _ _ (by decide) (by decide) hr5
       have kx:=HR.out.1.below hbc HR.out.1.lt
       have hqc:=own_below HR.out.2.2.2.1 hbc
       have hkl:∀k,(Value.slice Ao no co).ownBlock=some k→k<wr.heap.size:=fun k hk=>(HR.out.2.2.2.1.lt k hk).2
       obtain⟨q0,q1,q2,_⟩:=kZ.three
       have hql2:qs.length≤1000:=by have:=HR.out.2.2.2.2.2.1;omega
       have HK:=Lib.hid (And.intro kx (And.intro kZ (And.intro rz (And.intro hqc (And.intro hbc (And.intro hw2 hkl))))))
       clear hr5 hkeep kx kZ rz hqc hbc hkl kT
       have hbz:Below wc.heap.size wc (wc.alloc (.cells (lvcs [⟨Y,.slice A6 Y.pd.length c6⟩]).toArray 45)):=(Below.refl _ wc).alloc (Nat.le_refl _) _
       have hqa:=own_below HK.out.2.2.2.1 hbz
       have HA:=Lib.hid (And.intro hbz hqa)
       clear hbz hqa
       go_wp2_with (first
         | (at_builtin
            refine wpList_append_rd rfl (.tmp 35) (.tmp 37) 63 rfl w.heap.size 45 i0 _ 3 40 Tryz.underlying63 hi0 hz0 hz1 hz2 rfl (by decide) (.slice Ao no co) qs.length (lvcs qs) rfl HA.out.2 (.slice (some ⟨wc.heap.size,0,none⟩) 1 1) 1 (wc.heap.size+1) (lvcs [⟨Y,.slice A6 Y.pd.length c6⟩]) rfl (rd_newk wc wc.heap.size rfl (lvcs [⟨Y,.slice A6 Y.pd.length c6⟩]) 45 3 1 rfl (by omega)) (by intro u hu;simp[lvcs,lvc] at hu;rcases hu with rfl|rfl|rfl<;>rfl) (by unfold maxLen;omega) (by omega) (by have:=HR.out.2.2.2.2.2.2.2.size;have:=HK.out.2.2.2.2.1.size;simp;omega) ?_
            intro v6 w6 hown6 hg6 hv6
            have kZ6:=(HK.out.2.1.below HA.out.1 HK.out.2.1.lt).grown hg6 (fun e=>by have:=HK.out.2.2.2.2.2.2 _ e.symm;have:=HK.out.2.2.2.2.2.1;omega)
            have kx6:=(HK.out.1.below HA.out.1 HK.out.1.lt).grown hg6 (fun e=>HR.out.2.2.2.2.1 e.symm)
            obtain⟨q0,q1,q2,_⟩:=kZ6.three
            obtain⟨x0,x1,x2,x3,x4,x5⟩:=kx6.three
            obtain⟨A7,n7,c7,rfl⟩:=own_form' hown6
            have H6:=Lib.hid (And.intro hown6 (And.intro hg6 (And.intro hv6 kx6)))
            clear hown6 hg6 hv6 kx6 kZ6))
       obtain⟨hown6,hg6,hv6,kx6⟩:=H6.out
       have hg9:=grown_set (grown_set (grown_set (grown_refl w6 (some (w4.heap.size+1))) 0 (.int .i64 Y.aw)) 1 (.slice A6 Y.pd.length c6)) 2 (.bool Y.bd)
       have kx9:=((kx6.set 0 (.int .i64 Y.aw)).set 1 (.slice A6 Y.pd.length c6)).set 2 (.bool Y.bd)
       generalize ((w6.setCell ⟨w4.heap.size+1,0,none⟩ (.int .i64 Y.aw)).setCell ⟨w4.heap.size+1,1,none⟩ (.slice A6 Y.pd.length c6)).setCell ⟨w4.heap.size+1,2,none⟩ (.bool Y.bd)=W9 at hg9 kx9 ⊢
       have mv:∀{e sz n:Nat} {v:Value} {xs:List Value},e≠45→Rt wc e sz v n xs→Rt W9 e sz v n xs:=fun he h=>((h.next HA.out.1).keep hg6 (fun k hk=>by
         obtain⟨cs,t,fr,q1,q2⟩:=own_blk HA.out.2 k hk
         exact⟨t,cs,fr,q1,by rw[q2];exact he⟩)).keep hg9 (fun k hk=>by injection hk with hk;subst hk;exact⟨_,_,_,kx6,he⟩)
       have hne:(Value.slice A7 n7 c7).ownBlock≠some (w4.heap.size+1):=by
         rcases hv6 with h|h
         ·rw[h];exact HR.out.2.2.2.2.1
         ·rw[h]
          intro e
          injection e with e
          have:=HK.out.2.2.2.2.1.size
          simp at e
          omega
       have hbw:=HR.out.2.2.2.2.2.2.2.trans (HK.out.2.2.2.2.1.mono HR.out.2.2.2.2.2.2.2.size)
       have hbw2:=hbw.trans (HA.out.1.mono hbw.size)
       have hbw6:=hbw2.grown hg6 hbw2.size (fun k hk=>(HA.out.2.lt k hk).1)
       have hbw9:=hbw6.grown hg9 hbw6.size (fun k hk=>by injection hk with hk;omega)
       refine⟨⟨k+1,tt,Y,A6,c6,qs++[⟨Y,.slice A6 Y.pd.length c6⟩],A7,n7,c7,rfl,by omega,by go_num,HM.out.2.1,HM.out.2.2.1,hto2,kx9,mv (by decide) HK.out.2.2.1,mv (by decide) (HR.out.2.2.1.next HK.out.2.2.2.2.1),?_,hne,?_,fun i q hq=>?_,hbw9⟩,by simp[intOf]<;>omega⟩
       ·rw[lvcs_app,List.length_append]
        exact hown6.kept hg9 (.inr hne)
       ·rw[List.length_append,HR.out.2.2.2.2.2.1];rfl
       ·rcases Nat.lt_or_ge i qs.length with hi|hi
        ·rw[List.getElem?_append_left hi] at hq
         obtain⟨r1,r2⟩:=HR.out.2.2.2.2.2.2.1 i q hq
         exact⟨r1,mv (by decide) (r2.next HK.out.2.2.2.2.1)⟩
        ·have hlt2:=(List.getElem?_eq_some_iff.1 hq).1
         rw[List.length_append,List.length_singleton] at hlt2
         obtain rfl:i=qs.length:=by omega
         rw[List.getElem?_append_right (Nat.le_refl _),Nat.sub_self] at hq
         simp at hq
         subst hq
         refine⟨?_,mv (by decide) HK.out.2.2.1⟩
         rw[HR.out.2.2.2.2.2.1,HM.out.2.1]
    ·obtain rfl:k=ts.length:=by omega
     have HR:=Lib.hid (And.intro hq (And.intro hql (And.intro hqs hb)))
     clear hq hqb hql hqs hb kx rx rt
     go_wp2_with fail
     go_ret
     exact⟨_,qs,rfl,HR.out.1,HR.out.2.1,HR.out.2.2.1,HR.out.2.2.2⟩
end Go.Proofs.YtnclfgkpcpcapaaGreatDoor
