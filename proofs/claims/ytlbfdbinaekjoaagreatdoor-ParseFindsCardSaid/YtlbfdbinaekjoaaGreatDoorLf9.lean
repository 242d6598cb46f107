/- Tokens of any numbers: the bytes of one, and the leaves of a row (token.Text, token.Leaves). -/
import Derived.Test.YtlbfdbinaekjoaaGreatDoorMem
import Derived.Test.YtlbfdbinaekjoaaGreatDoorSa9
import Derived.Test.YtlbfdbinaekjoaaGreatDoorLa9
import Derived.Test.YtlbfdbinaekjoaaGreatDoorPa0
namespace Go.Proofs.YtlbfdbinaekjoaaGreatDoor
open Go.RowKit
set_option linter.unusedVariables false
set_option linter.unusedSimpArgs false
set_option maxRecDepth 100000
structure Tz where
  kd:Int
  fr:Int
  to:Int
  op:Bool
def tzc (t:Tz):List Value:=[.int .i64 t.kd,.int .i64 t.fr,.int .i64 t.to,.bool t.op]
theorem tzc_len (t:Tz):(tzc t).length=4:=rfl
def inZ (l:List UInt8) (t:Tz):Bool:=decide (0≤t.fr)&&decide (t.fr≤t.to)&&decide (t.to≤(l.length:Int))
def txZ (l:List UInt8) (t:Tz):List UInt8:=if inZ l t=true then sub l t.fr.toNat t.to.toNat else []
structure Lf where
  kd:Int
  tx:List UInt8
  fr:Int
  to:Int
def lfc (x:Lf):List Value:=[.int .i64 x.kd,.string ⟨x.tx.toArray⟩,.int .i64 x.fr,.int .i64 x.to]
def lfcs (L:List Lf):List Value:=L.flatMap lfc
theorem lfcs_app (L M:List Lf):lfcs (L++M)=lfcs L++lfcs M:=by simp[lfcs]
theorem one_lf (x:Lf):∀u∈lfcs [x],u.oneCell'=true:=by
  intro u hu
  simp[lfcs,lfc] at hu
  rcases hu with rfl|rfl|rfl|rfl<;>rfl
def leafK (k:Int):Bool:=k==4||k==5||k==6||k==2
def leafZ (l:List UInt8) (t:Tz):List Lf:=if inZ l t=true∧leafK t.kd=true then [⟨t.kd,txZ l t,t.fr,t.to⟩] else []
def leavesZ (l:List UInt8) (ts:List Tz):List Lf:=ts.flatMap (leafZ l)
theorem leavesZ_len (l:List UInt8):∀(ts:List Tz),(leavesZ l ts).length≤ts.length
  | []=>Nat.le_refl _
  | t::r=>by
    have:=leavesZ_len l r
    have h:(leafZ l t).length≤1:=by unfold leafZ;split<;>simp
    show (leafZ l t++leavesZ l r).length≤_
    rw[List.length_append,List.length_cons]
    omega
theorem leavesZ_take (l:List UInt8) (ts:List Tz) {k:Nat} {t:Tz} (h:ts[k]? = some t):leavesZ l (ts.take (k+1))=leavesZ l (ts.take k)++leafZ l t:=by
  rw[List.take_add_one,h]
  simp[leavesZ]
theorem inZ_ways (l:List UInt8) (t:Tz) :
    (decide (t.fr<0)=true∧inZ l t=false)∨(decide (t.fr<0)=false∧decide (t.to<t.fr)=true∧inZ l t=false) ∨
    (decide (t.fr<0)=false∧decide (t.to<t.fr)=false∧decide ((l.length:Int)<t.to)=true∧inZ l t=false) ∨
    (decide (t.fr<0)=false∧decide (t.to<t.fr)=false∧decide ((l.length:Int)<t.to)=false∧inZ l t=true):=by
  unfold inZ
  simp only[decide_eq_true_eq,decide_eq_false_iff_not,Bool.and_eq_true,Bool.and_eq_false_iff]
  omega
set_option maxHeartbeats 1000000 in
theorem text9_z (l:List UInt8) (t:Tz) (w:World) (hl:l.length≤9223372036854775807) :
    Calls Tryz.prog 35 #[.string ⟨l.toArray⟩,.agg #[.int .i64 t.kd,.int .i64 t.fr,.int .i64 t.to,.bool t.op]] w fun e w'=>e=.returned (.string ⟨(txZ l t).toArray⟩)∧Below w.heap.size w w':=by
  unfold txZ
  obtain⟨kd,fr,to,op⟩:=t
  have hw:=inZ_ways l ⟨kd,fr,to,op⟩
  generalize inZ l ⟨kd,fr,to,op⟩=b at hw ⊢
  rcases hw with ⟨d0,rfl⟩|⟨d0,d1,rfl⟩|⟨d0,d1,d2,rfl⟩|⟨d0,d1,d2,rfl⟩
  iterate 3
    ·have d0:decide (fr<0)=_:=d0
     try have d1:decide (to<fr)=_:=d1
     try have d2:decide ((l.length:Int)<to)=_:=d2
     go_enter Tryz.func35,Tryz.ntmps35
     go_wp2
     go_ret
     exact⟨rfl,Below.alloc (Below.refl _ _) (Nat.le_refl _) _⟩
  ·have d0:decide (fr<0)=_:=d0
   have d1:decide (to<fr)=_:=d1
   have d2:decide ((l.length:Int)<to)=_:=d2
   have e0:¬fr<0:=by simpa using d0
   have e1:¬to<fr:=by simpa using d1
   have e2:¬(l.length:Int)<to:=by simpa using d2
   have v0:(0:Int)≤fr:=by omega
   have v1:fr≤to:=by omega
   have v2:to≤(l.length:Int):=by omega
   rw[if_pos rfl]
   go_enter Tryz.func35,Tryz.ntmps35
   go_wp2
   go_ret
   refine⟨?_,?_⟩
   ·rw[ba_extract];rfl
   ·exact Below.alloc (Below.refl _ _) (Nat.le_refl _) _
end Go.Proofs.YtlbfdbinaekjoaaGreatDoor
namespace Go.Proofs.YtlbfdbinaekjoaaGreatDoor
open Go.RowKit
set_option linter.unusedVariables false
set_option linter.unusedSimpArgs false
set_option maxRecDepth 100000
theorem Tryz.infoLeaf:(Tryz.prog.info? 35).map (fun i=>(i.zero,i.size,i.bytes))=some (some (.agg #[.int .i64 0,.string ⟨#[]⟩,.int .i64 0,.int .i64 0]),4,40):=by kernel_rfl
theorem leafK_ways (k:Int):((k==4)=true∧leafK k=true)∨((k==4)=false∧(k==5)=true∧leafK k=true)∨((k==4)=false∧(k==5)=false∧(k==6)=true∧leafK k=true) ∨
    ((k==4)=false∧(k==5)=false∧(k==6)=false∧(k==2)=true∧leafK k=true)∨((k==4)=false∧(k==5)=false∧(k==6)=false∧(k==2)=false∧leafK k=false):=by
  unfold leafK
  cases h4:k==4<;>cases h5:k==5<;>cases h6:k==6<;>cases h2:k==2<;>simp
set_option maxHeartbeats 4000000 in
theorem leaves_z (l:List UInt8) (ts:List Tz) (A:Option Addr) (c:Nat) (w:World) (hl:l.length≤100000) (ht:ts.length≤100000) (hR:Rd w w.heap.size 4 (.slice A ts.length c) ts.length (ts.flatMap tzc)) :
    Calls Tryz.prog 17 #[.string ⟨l.toArray⟩,.slice A ts.length c] w fun e w'=>∃v,e=.returned v∧w'.ownsRow w.heap.size 35 4 v (leavesZ l ts).length (lfcs (leavesZ l ts))∧Below w.heap.size w w':=by
  obtain⟨i0,hi0,hz0,hz1,hz2⟩:=info_parts Tryz.infoLeaf
  have H0:=Lib.hid hR
  clear hR
  go_enter Tryz.func17,Tryz.ntmps17
  go_wp2
  go_loopw [4,6,9] (fun o b i wr=>∃k:Nat,k≤ts.length∧i=.int .i64 k∧wr.ownsRow w.heap.size 35 4 o (leavesZ l (ts.take k)).length (lfcs (leavesZ l (ts.take k)))∧Below w.heap.size w wr) (fun o b i _=>ts.length-(intOf i).toNat)
  case atStart=>exact⟨0,Nat.zero_le _,rfl,World.ownsRow_nil _ _ _ _,Below.refl _ _⟩
  case round=>
    obtain⟨k,hk,rfl,ho,hb⟩:=hrel
    by_cases hlt:k<ts.length
    ·obtain⟨⟨kd,fr,to,op⟩,hget⟩:∃t,ts[k]? = some t:=⟨_,List.getElem?_eq_getElem hlt⟩
     obtain⟨g,q,rfl,_,hc⟩:=rd_sat tzc_len (H0.out.keep hb (Nat.le_refl _)) hget rfl
     have y0:wr.cell? ⟨g,q+k*4,none⟩=some (.int .i64 kd):=hc 0 _ rfl
     have y1:wr.cell? ⟨g,q+k*4+1,none⟩=some (.int .i64 fr):=hc 1 _ rfl
     have y2:wr.cell? ⟨g,q+k*4+2,none⟩=some (.int .i64 to):=hc 2 _ rfl
     have y3:wr.cell? ⟨g,q+k*4+3,none⟩=some (.bool op):=hc 3 _ rfl
     have u1:(k:Int)<(ts.length:Int):=by omega
     have u2:(0:Int)≤(k:Int):=by omega
     have hlen:(leavesZ l (ts.take k)).length≤100000:=by
       have:=leavesZ_len l (ts.take k)
       rw[List.length_take] at this
       omega
     have hsuc:=leavesZ_take l ts hget
     obtain⟨L,hL⟩:∃L,L=leavesZ l (ts.take k):=⟨_,rfl⟩
     have hleaf:∀b b',inZ l ⟨kd,fr,to,op⟩=b→leafK kd=b'→leafZ l ⟨kd,fr,to,op⟩=if b=true∧b'=true then [⟨kd,txZ l ⟨kd,fr,to,op⟩,fr,to⟩] else []:=by rintro b b' rfl rfl;rfl
     have htx:∀W,l.length≤9223372036854775807→Calls Tryz.prog 35 #[.string ⟨l.toArray⟩,.agg #[.int .i64 kd,.int .i64 fr,.int .i64 to,.bool op]] W fun e w'=>e=.returned (.string ⟨(txZ l ⟨kd,fr,to,op⟩).toArray⟩)∧Below W.heap.size W w':=text9_z l ⟨kd,fr,to,op⟩
     rw[←hL] at hsuc ho hlen
     have hways:(decide (fr<0)=true∧inZ l ⟨kd,fr,to,op⟩=false)∨(decide (fr<0)=false∧decide (to<fr)=true∧inZ l ⟨kd,fr,to,op⟩=false)∨(decide (fr<0)=false∧decide (to<fr)=false∧decide ((l.length:Int)<to)=true∧inZ l ⟨kd,fr,to,op⟩=false)∨(decide (fr<0)=false∧decide (to<fr)=false∧decide ((l.length:Int)<to)=false∧inZ l ⟨kd,fr,to,op⟩=true):=inZ_ways l ⟨kd,fr,to,op⟩
     have kways:=leafK_ways kd
     generalize inZ l ⟨kd,fr,to,op⟩=bi at hways hleaf
     generalize leafK kd=bk at kways hleaf
     have hleaf:=hleaf bi bk rfl rfl
     obtain⟨X,hX⟩:∃X,X=txZ l ⟨kd,fr,to,op⟩:=⟨_,rfl⟩
     rw[←hX] at hleaf htx
     obtain⟨A2,n2,c2,rfl⟩:=own_form' ho
     obtain rfl:=own_len ho
     have HP:=Lib.hid (And.intro ho (And.intro hb (And.intro hsuc (And.intro hleaf htx))))
     clear ho hb hsuc hleaf htx hc hget hL hX
     have hskip:leafZ l ⟨kd,fr,to,op⟩=[]→((∃m:Nat,m≤ts.length∧Value.int .i64 ((k:Int)+1)=.int .i64 m∧(wr.alloc (.cells #[.int .i64 kd,.int .i64 fr,.int .i64 to,.bool op] 69)).ownsRow w.heap.size 35 4 (.slice A2 L.length c2) (leavesZ l (ts.take m)).length (lfcs (leavesZ l (ts.take m)))∧Below w.heap.size w (wr.alloc (.cells #[.int .i64 kd,.int .i64 fr,.int .i64 to,.bool op] 69)))):=by
       intro h0
       have hs:=HP.out.2.2.1
       rw[h0,List.append_nil] at hs
       refine⟨k+1,by omega,by go_num,?_,HP.out.2.1.alloc HP.out.2.1.size _⟩
       rw[hs]
       exact HP.out.1.alloc _
     have HK:=Lib.hid hskip
     clear hskip
     rcases hways with ⟨d0,rfl⟩|⟨d0,d1,rfl⟩|⟨d0,d1,d2,rfl⟩|⟨d0,d1,d2,rfl⟩
     iterate 3
       ·clear kways hleaf
        go_wp2_with fail
        exact⟨HK.out (by rw[HP.out.2.2.2.1];simp),by simp[intOf];omega⟩
     ·rcases kways with ⟨k4,rfl⟩|⟨k4,k5,rfl⟩|⟨k4,k5,k6,rfl⟩|⟨k4,k5,k6,k2,rfl⟩|⟨k4,k5,k6,k2,rfl⟩
      iterate 4
        ·go_upto_region 10 with fail
         refine gen1 fun W hbW hkW hsW=>?_
         have hoW:=own_below HP.out.1 hbW
         have hbw:=HP.out.2.1.trans (hbW.mono HP.out.2.1.size)
         obtain⟨b0,b1,b2,b3⟩:W.cell? ⟨wr.heap.size,0,none⟩=some (.int .i64 kd)∧W.cell? ⟨wr.heap.size,1,none⟩=some (.int .i64 fr)∧W.cell? ⟨wr.heap.size,2,none⟩=some (.int .i64 to)∧W.cell? ⟨wr.heap.size,3,none⟩=some (.bool op):=
           ⟨by rw[hkW.cell];rfl,by rw[hkW.cell];rfl,by rw[hkW.cell];rfl,by rw[hkW.cell];rfl⟩
         have hne:some wr.heap.size≠(Value.slice A2 L.length c2).ownBlock:=fun h=>by have:=(HP.out.1.lt _ h.symm).2;omega
         have HW:=Lib.hid (And.intro hoW (And.intro hbw (And.intro hkW hne)))
         clear hoW hbw hbW hkW hsW hne y0 y1 y2 y3
         go_region_held3 (fun w'=>w'.cell? ⟨wr.heap.size,0,none⟩=some (.int .i64 kd)∧w'.cell? ⟨wr.heap.size,1,none⟩=some (.int .i64 fr)∧w'.cell? ⟨wr.heap.size,2,none⟩=some (.int .i64 to)∧w'.cell? ⟨wr.heap.size,3,none⟩=some (.bool op))
           (first
             | with_reducible exact⟨b0,b1,b2,b3⟩
             | go_keep)
           (first
             | (go_at_call 35
                with_reducible refine(HP.out.2.2.2.2 _ (by omega)).mono ?_
                rintro e w5 ⟨rfl,hb5⟩
                have hb6:Below W.heap.size W w5:=(below_drewN' (Below.refl _ W) 1).trans hb5
                have k5:=HW.out.2.2.1.below hb6 HW.out.2.2.1.lt
                have o5:=own_below HW.out.1 hb6
                have w5b:=HW.out.2.1.trans (hb6.mono HW.out.2.1.size)
                obtain⟨b0,b1,b2,b3⟩:w5.cell? ⟨wr.heap.size,0,none⟩=some (.int .i64 kd)∧w5.cell? ⟨wr.heap.size,1,none⟩=some (.int .i64 fr)∧w5.cell? ⟨wr.heap.size,2,none⟩=some (.int .i64 to)∧w5.cell? ⟨wr.heap.size,3,none⟩=some (.bool op):=
                  ⟨by rw[k5.cell];rfl,by rw[k5.cell];rfl,by rw[k5.cell];rfl,by rw[k5.cell];rfl⟩
                have H5:=Lib.hid (And.intro k5 (And.intro o5 w5b))
                clear hb5 hb6 k5 o5 w5b)
             | (refine step_append_rd rfl (.tmp 37) (.tmp 48) 22 rfl w.heap.size 35 i0 _ 4 40 Tryz.underlying22 hi0 hz0 hz1 hz2 rfl (by decide) (.slice A2 L.length c2) L.length (lfcs L) (by simp[Act.eval]) (H5.out.2.1.alloc _) (.slice (some ⟨w5.heap.size,0,none⟩) 1 1) 1 (w5.heap.size+1) (lfcs [⟨kd,X,fr,to⟩]) (by simp[Act.eval]) (rd_new w5 (lfcs [⟨kd,X,fr,to⟩]) 35 4 1 rfl (by omega)) (one_lf _) (by unfold maxLen;omega) (by omega) (by have:=H5.out.2.2.size;simp;omega) ?_
                intro v6 w6 hown6 hg6 hv6
                have k6:Bk w6 wr.heap.size 69 #[.int .i64 kd,.int .i64 fr,.int .i64 to,.bool op]:=(H5.out.1.alloc _).grown hg6 HW.out.2.2.2
                obtain⟨b0,b1,b2,b3⟩:w6.cell? ⟨wr.heap.size,0,none⟩=some (.int .i64 kd)∧w6.cell? ⟨wr.heap.size,1,none⟩=some (.int .i64 fr)∧w6.cell? ⟨wr.heap.size,2,none⟩=some (.int .i64 to)∧w6.cell? ⟨wr.heap.size,3,none⟩=some (.bool op):=
                  ⟨by rw[k6.cell];rfl,by rw[k6.cell];rfl,by rw[k6.cell];rfl,by rw[k6.cell];rfl⟩
                have H6:=Lib.hid (And.intro hown6 hg6)
                clear hown6 hg6 hv6 k6))
         all_goals (
           go_wp2_with fail
           have hs:=HP.out.2.2.1
           rw[HP.out.2.2.2.1,if_pos (by simp)] at hs
           refine⟨⟨k+1,by omega,by go_num,?_,?_⟩,by simp[intOf];omega⟩
           ·rw[hs,lfcs_app,List.length_append];exact H6.out.1
           ·exact Below.grown (H5.out.2.2.alloc H5.out.2.2.size _) H6.out.2 (by have:=H5.out.2.2.size;simp;omega) (fun kk hk=>(H5.out.2.1.lt kk hk).1))
      ·go_wp2_with fail
       exact⟨HK.out (by rw[HP.out.2.2.2.1];simp),by simp[intOf];omega⟩
    ·obtain rfl:k=ts.length:=by omega
     rw[List.take_length] at ho
     have HP:=Lib.hid (And.intro ho hb)
     clear ho hb
     go_wp2_with fail
     go_ret
     exact⟨_,rfl,HP.out⟩
end Go.Proofs.YtlbfdbinaekjoaaGreatDoor
