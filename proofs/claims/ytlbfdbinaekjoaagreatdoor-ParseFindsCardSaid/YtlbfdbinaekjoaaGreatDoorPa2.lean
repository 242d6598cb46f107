/- The program's parts of a text (parts.Of): they are those of canon, with what is done at the text's end. -/
import Derived.Test.YtlbfdbinaekjoaaGreatDoorPa1
import Derived.Test.YtlbfdbinaekjoaaGreatDoorCls
import Derived.BigQuiet
namespace Go.Proofs.YtlbfdbinaekjoaaGreatDoor
open Go.RowKit
set_option linter.unusedVariables false
set_option linter.unusedSimpArgs false
set_option maxRecDepth 100000
structure SW (w:World) (B b:Nat) (v1 v2:Value) (l:List Prt) (h:List Nat):Prop where
  le:B≤b
  hd:Bk w b 167 #[v1,v2]
  ol:w.ownsRow B 149 5 v1 l.length (pcells l)
  oh:w.ownsRow B 3 1 v2 h.length (ncells h)
theorem SW.kt {T:List TypeId} {w w':World} {B b:Nat} {v1 v2:Value} {l:List Prt} {h:List Nat} (s:SW w B b v1 v2 l h) (hk:KT T w w') (h1:167∉T) (h2:149∉T) (h3:3∉T):SW w' B b v1 v2 l h:=
  ⟨s.le,s.hd.kt hk h1,own_kt s.ol hk h2,own_kt s.oh hk h3⟩
theorem SW.below {w w':World} {B b:Nat} {v1 v2:Value} {l:List Prt} {h:List Nat} (s:SW w B b v1 v2 l h) (hb:Below w.heap.size w w'):SW w' B b v1 v2 l h:=
  ⟨s.le,s.hd.below hb s.hd.lt,own_below s.ol hb,own_below s.oh hb⟩
theorem SW.setL {w:World} {B b g n c:Nat} {v2:Value} {l l':List Prt} {h:List Nat} (s:SW w B b (.slice (some ⟨g,0,none⟩) n c) v2 l h) (j:Nat) (u:Value) (he:(pcells l).set j u=pcells l') (hl:l'.length=l.length) :
    SW (w.setCell ⟨g,j,none⟩ u) B b (.slice (some ⟨g,0,none⟩) n c) v2 l' h:=by
  obtain⟨s1,s2,s3,s4⟩:=s
  have hn:=(own_le s3).1
  subst hn
  have hgb:=own_ne s3 s2 (by decide)
  refine⟨s1,s2.far (by intro e;subst e;exact hgb rfl) u,?_,own_far s4 (own_apart s3 s4 (by decide)) u⟩
  rw[hl,←he]
  exact own_set s3 j u
theorem SW.drew {w:World} {B b:Nat} {v1 v2:Value} {l:List Prt} {h:List Nat} (s:SW w B b v1 v2 l h):SW w.drew B b v1 v2 l h:=⟨s.le,s.hd,s.ol,s.oh⟩
theorem SW.gle {w:World} {B b:Nat} {v2:Value} {l:List Prt} {h:List Nat} {g n c:Nat} (s:SW w B b (.slice (some ⟨g,0,none⟩) n c) v2 l h):B≤g:=by
  have:=s.ol
  have hn:=own_len this
  subst hn
  exact(own_le this).2.2.2.1
theorem of_ss {w:World} {B b n B':Nat} {v1 v2 vf:Value} {l:List Prt} {h:List Nat} {fc:List Value} (s:SW w B b v1 v2 l h) (hf:w.ownsRow B' 138 2 vf n fc) (hB:B≤B'):SS w B b v1 v2 vf l h n fc:=
  ⟨s.le,s.hd,s.ol,s.oh,own_base hf hB⟩
theorem hereP_lt (l:List UInt8) (k:Nat):∀x∈hereP l k,x<(canon l k).length:=by
  intro x hx
  obtain⟨p,hp,rfl⟩:=List.mem_map.1 hx
  exact idx_lt ((canon_ci l k).sub p hp)
theorem hereP_len (l:List UInt8) (k:Nat):(hereP l k).length≤k:=by
  have h1:(hereP l k).length=(FT l k).length:=by simp[hereP,pls]
  have h2:(FT l k).length=(XT l k).length:=by simp[FT]
  have h3:=XT_len l k
  have h4:=rAt_len l k
  omega
theorem newP_len (F:Stk) (k:Int) (l:List Prt):(newP F k l).length≤1:=by unfold newP;split;simp;split<;>simp
theorem canon_len (l:List UInt8):∀k,(canon l k).length≤k
  | 0=>by simp[canon]
  | k+1=>by
    have:=canon_len l k
    have:=newP_len (FT l (k+1)) k (canon l k)
    simp only[canon,List.length_append,List.length_map]
    omega
theorem SW.dol {w:World} {B b g n c k:Nat} {v2:Value} {l:List Prt} {h:List Nat} {q:Prt} (s:SW w B b (.slice (some ⟨g,0,none⟩) n c) v2 l h) (hq:l[k]? = some q) (t:Int) :
    SW ((w.setCell ⟨g,k*5+2,none⟩ (.int .i64 t)).setCell ⟨g,k*5+4,none⟩ (.bool false)) B b (.slice (some ⟨g,0,none⟩) n c) v2 (l.set k (dolP q t)) h:=by
  have hk:=(List.getElem?_eq_some_iff.1 hq).1
  have s1:=s.setL (k*5+2) (.int .i64 t) (pcells_set l k q (setTo q t) 2 (.int .i64 t) hq (by omega) rfl) (by simp)
  have hq1:(l.set k (setTo q t))[k]? = some (setTo q t):=by rw[List.getElem?_set_self hk]
  have s2:=s1.setL (k*5+4) (.bool false) (pcells_set (l.set k (setTo q t)) k (setTo q t) (dolP q t) 4 (.bool false) hq1 (by omega) rfl) (by simp)
  rwa [List.set_set] at s2
theorem set_same {α:Type} {l:List α} {i:Nat} {x:α} (h:l[i]? = some x):l.set i x=l:=by
  apply List.ext_getElem?
  intro j
  by_cases e:i=j
  ·subst e
   rw[List.getElem?_set_self (List.getElem?_eq_some_iff.1 h).1,h]
  ·rw[List.getElem?_set_ne e]
def finTo (l:List UInt8) (cs:List Prt) (k:Nat):List Prt:=(cs.take k).map (finP l)++cs.drop k
theorem finTo_len (l:List UInt8) (cs:List Prt) (k:Nat):(finTo l cs k).length=cs.length:=by simp[finTo];omega
theorem finTo_at (l:List UInt8) (cs:List Prt) (k:Nat) (q:Prt) (h:cs[k]? = some q):(finTo l cs k)[k]? = some q:=by
  have hk:=(List.getElem?_eq_some_iff.1 h).1
  unfold finTo
  rw[List.getElem?_append_right (by simp;omega),List.getElem?_drop]
  simp only[List.length_map,List.length_take,Nat.min_eq_left (Nat.le_of_lt hk),Nat.sub_self,Nat.add_zero]
  exact h
theorem finTo_next (l:List UInt8) (cs:List Prt) (k:Nat) (q:Prt) (h:cs[k]? = some q):(finTo l cs k).set k (finP l q)=finTo l cs (k+1):=by
  obtain⟨hk,hq⟩:=List.getElem?_eq_some_iff.1 h
  unfold finTo
  rw[List.set_append_right _ _ (by simp;omega)]
  simp only[List.length_map,List.length_take,Nat.min_eq_left (Nat.le_of_lt hk),Nat.sub_self]
  rw[List.drop_eq_getElem_cons hk,List.take_succ_eq_append_getElem hk,List.map_append,hq]
  simp
set_option maxHeartbeats 2000000 in
theorem of_m (l:List UInt8) (w:World) (hl:l.length≤900) :
    Calls Tryz.prog 133 #[.string ⟨l.toArray⟩] w fun e w'=>∃v,e=.returned v∧w'.ownsRow w.heap.size 149 5 v (partsL l).length (pcells (partsL l))∧Below w.heap.size w w':=by
  go_enter Tryz.func133,Tryz.ntmps133
  go_wp2_with (go_at_call 93;refine(new_m _).mono ?_
               rintro e w1 ⟨bm,rfl,hm1,hb1⟩)
  have s1:SW w1 w.heap.size w.heap.size (.slice none 0 0) (.slice none 0 0) [] []:=
    SW.below (w:=w.alloc (.cells #[.slice none 0 0,.slice none 0 0] 167)) ⟨Nat.le_refl _,Bk.new _ _ _,World.ownsRow_nil _ _ _ _,World.ownsRow_nil _ _ _ _⟩ hb1
  have hbw:Below w.heap.size w w1:=((Below.refl _ _).alloc (Nat.le_refl _) _).trans (hb1.mono (by simp))
  have H1:=Lib.hid (And.intro hm1 (And.intro s1 hbw))
  clear hm1 hb1 s1 hbw
  go_loopw [13] (fun i wr=>∃(k:Nat) (v1 v2:Value),k≤l.length∧i=.int .i64 k∧SW wr w.heap.size w.heap.size v1 v2 (canon l k) (hereP l k)∧Mach wr (w.heap.size+1) bm (rAt l k).1 (rAt l k).2 k∧Below w.heap.size w wr) (fun i _=>l.length-(intOf i).toNat)
  case atStart=>exact⟨0,_,_,by omega,rfl,H1.out.2.1,by have:=H1.out.1;simpa [rAt] using this,H1.out.2.2⟩
  case round=>
    obtain⟨k,v1,v2,hk,rfl,s2,hm2,hb2⟩:=hrel
    have hbot:=rAt_bot l k
    have hv:=rAt_v l k
    have hlen:=rAt_len l k
    have HR:=Lib.hid (And.intro hm2 (And.intro hb2 (And.intro hbot (And.intro hv s2))))
    clear hm2 hb2 hbot hv s2
    by_cases hlt:k<l.length
    ·have hi0:(0:Int)≤(k:Int):=by omega
     have hi1:(k:Int)<(l.length:Int):=by omega
     have en:=rAt_succ l k hlt
     have hbot2:=rAt_bot l (k+1)
     have HB2:=Lib.hid (And.intro en (And.intro hbot2 (rAt_len l (k+1))))
     clear en hbot2
     go_wp2_with (first
       | (go_at_call 95
          refine(feed_m (w.heap.size+1) bm _ _ _ _ _ HR.out.1 HR.out.2.2.1 HR.out.2.2.2.1 (by omega) (by omega) (by omega)).mono ?_
          rintro e w2 ⟨rfl,hm3,hb3⟩
          rw[←HB2.out.1] at hm3
          have s3:=HR.out.2.2.2.2.kt hb3.t (by decide) (by decide) (by decide)
          have H3:=Lib.hid (And.intro hm3 (And.intro hb3 s3))
          clear hm3 hb3 s3)
       | (go_at_call 129
          refine(frames_m (w.heap.size+1) bm _ _ _ _ H3.out.1 HB2.out.2.1.ne (by have:=HB2.out.2.2;omega)).mono ?_
          rintro e w3 ⟨g,c,rfl,hfr,hb4⟩
          have s4:=H3.out.2.2.below hb4
          have hm4:=H3.out.1.below hb4
          obtain⟨N,hN⟩:∃N,(rAt l (k+1)).1.length=N+1:=⟨_,XT_len l (k+1)⟩
          unfold Fr at hfr
          rw[hN] at hfr ⊢
          obtain⟨C,rfl⟩:∃C,c=C+1:=⟨c-1,by have:=own_le hfr;omega⟩
          have H4:=Lib.hid (And.intro s4 (And.intro hm4 (And.intro hfr (And.intro hb4 hN))))
          clear s4 hm4 hfr hb4 hN)
       | (go_at_call 156
          refine(see_m w.heap.size w.heap.size g C N v1 v2 (canon l k) (hereP l k) (rAt l (k+1)).1 k _ (of_ss H4.out.1 H4.out.2.2.1 (by have:=H3.out.2.1.b.size;have:=HR.out.2.1.size;omega)) H4.out.2.2.2.2 (by omega) (by have:=canon_len l k;omega) (by have:=HB2.out.2.2;have:=H4.out.2.2.2.2;omega) (by have:=hereP_len l k;omega) (hereP_lt l k)).mono ?_
          rintro e w5 ⟨rfl,⟨v1',v2',s5⟩,hb5⟩
          have hm5:=H4.out.2.1.kt hb5.t (by decide) (by decide)
          have H5:=Lib.hid (And.intro s5 (And.intro hm5 hb5))
          clear s5 hm5 hb5))
     obtain⟨s5,hm5,hb5⟩:=H5.out
     have ec:seeP (fsP (rAt l (k+1)).1.reverse.tail) (k:Int) (canon l k) (hereP l k)=(canon l (k+1),hereP l (k+1)):=by
       rw[rAt_rev]
       exact see_canon l k
     rw[ec] at s5
     have q1:Below w.heap.size w w2:=HR.out.2.1.trans (H3.out.2.1.b.mono (by omega))
     have q2:Below w.heap.size w w3:=q1.trans (H4.out.2.2.2.1.mono q1.size)
     exact⟨⟨k+1,v1',v2',by omega,by go_num,⟨s5.le,s5.hd,s5.ol,s5.oh⟩,by simpa using hm5,q2.trans hb5.b⟩,by simp[intOf];omega⟩
    ·have e:k=l.length:=by omega
     subst e
     obtain⟨hm2,hb2,_,_,s2⟩:=HR.out
     obtain⟨wo,rfl⟩:∃wo:World,wo=wr:=⟨_,rfl⟩
     obtain⟨A1,n1,c1,rfl⟩:=own_form' s2.ol
     obtain rfl:=own_len s2.ol
     have y0:wo.cell? ⟨w.heap.size,0,none⟩=some (.slice A1 (canon l l.length).length c1):=by rw[s2.hd.cell];rfl
     have hcl:=canon_len l l.length
     have hfr:=fun q hq=>(canon_ci l l.length).bnd q hq
     have HC:=Lib.hid hfr
     have H2:=Lib.hid (And.intro s2 hb2)
     clear s2 hb2 hm2 hfr
     generalize hcs:canon l l.length=cs at *
     have HCS:=Lib.hid hcs
     clear hcs
     go_wp2_with fail
     go_loopw [32] (fun i wx=>∃(k:Nat) (v1:Value),k≤cs.length∧i=.int .i64 k∧SW wx w.heap.size w.heap.size v1 v2 (finTo l cs k) (hereP l l.length)∧Below w.heap.size w wx) (fun i _=>cs.length-(intOf i).toNat)
     case atStart=>exact⟨0,_,by omega,rfl,by simpa [finTo] using H2.out.1,H2.out.2⟩
     case round=>
       obtain⟨i,v1',hi,rfl,s3,hb3⟩:=hrel
       obtain⟨A3,n3,c3,rfl⟩:=own_form' s3.ol
       obtain rfl:=own_len s3.ol
       have hfl:(finTo l cs i).length=cs.length:=finTo_len l cs i
       rw[hfl] at s3
       have hol:=s3.ol
       rw[hfl] at hol
       have y1:wr.cell? ⟨w.heap.size,0,none⟩=some (.slice A3 cs.length c3):=by rw[s3.hd.cell];rfl
       by_cases hlt2:i<cs.length
       ·obtain⟨q,hq⟩:∃q,cs[i]? = some q:=⟨_,List.getElem?_eq_getElem hlt2⟩
        obtain⟨g3,rfl⟩:=own_at hol (by omega)
        have hqi:=finTo_at l cs i q hq
        have y2:=own_cell hol _ _ (pcells_get _ i q hqi 4 _ rfl)
        have y3:wr.cell? ⟨g3,i*5,none⟩=some (.int .i64 q.mode):=own_cell hol _ _ (pcells_get _ i q hqi 0 _ rfl)
        have y4:=own_cell hol _ _ (pcells_get _ i q hqi 1 _ rfl)
        have y5:=own_cell hol _ _ (pcells_get _ i q hqi 2 _ rfl)
        have f5:=own_frozen hol (i*5+2)
        have k1:(i:Int)<(cs.length:Int):=by omega
        have k2:(0:Int)≤(i:Int):=by omega
        obtain⟨hf0,hf1⟩:=HC.out q.fr (List.mem_map.2 ⟨q,List.mem_of_getElem? hq,rfl⟩)
        have H3:=Lib.hid (And.intro s3 (And.intro hb3 (And.intro hq hqi)))
        clear s3 hb3 hq hqi hol y0
        go_upto_if 44 with fail
        obtain⟨q2,hq2⟩:∃q2,q2=fixTo l.length q:=⟨_,rfl⟩
        go_cut [] (fun wx=>SW wx w.heap.size w.heap.size (.slice (some ⟨g3,0,none⟩) cs.length c3) v2 ((finTo l cs i).set i q2) (hereP l l.length)∧Below w.heap.size wr wx)
        case first=>
          cases hop:q.op
          ·rw[hop] at y2
           have HO:=Lib.hid (And.intro hop hq2)
           clear hop hq2
           go_wp2_with fail
           go_meet
           obtain⟨hop,hq2⟩:=HO.out
           refine⟨?_,Below.refl _ _⟩
           rw[hq2,show fixTo l.length q=q by unfold fixTo;rw[if_neg (by rw[hop];simp)],set_same H3.out.2.2.2]
           exact H3.out.1
          ·rw[hop] at y2
           have HO:=Lib.hid (And.intro hop hq2)
           clear hop hq2
           go_wp2_with fail
           go_meet
           obtain⟨hop,hq2⟩:=HO.out
           refine⟨?_,(Below.refl _ _).setCell H3.out.1.gle _⟩
           rw[hq2,show fixTo l.length q=setTo q l.length by unfold fixTo;rw[if_pos hop];rfl]
           exact H3.out.1.setL _ _ (pcells_set _ i q (setTo q l.length) 2 _ H3.out.2.2.2 (by omega) rfl) (by simp)
        case rest=>
          obtain⟨s4,hb4⟩:=hcut
          have hL2:((finTo l cs i).set i q2)[i]? = some q2:=by rw[List.getElem?_set_self (by rw[hfl];omega)]
          have hfl2:((finTo l cs i).set i q2).length=cs.length:=by simp[hfl]
          have hol2:=s4.ol
          rw[hfl2] at hol2
          have hqm:q2.mode=q.mode:=by rw[hq2];unfold fixTo;split<;>rfl
          have hqf:q2.fr=q.fr:=by rw[hq2];exact fixTo_fr _ _
          have y3':wc.cell? ⟨g3,i*5,none⟩=some (.int .i64 q.mode):=by rw[←hqm];exact own_cell hol2 _ _ (pcells_get _ i q2 hL2 0 _ rfl)
          have y4':wc.cell? ⟨g3,i*5+1,none⟩=some (.int .i64 q.fr):=by rw[←hqf];exact own_cell hol2 _ _ (pcells_get _ i q2 hL2 1 _ rfl)
          have y5':wc.cell? ⟨g3,i*5+2,none⟩=some (.int .i64 (toP q2)):=own_cell hol2 _ _ (pcells_get _ i q2 hL2 2 _ rfl)
          have y6':wc.cell? ⟨g3,i*5+4,none⟩=some (.bool q2.op):=own_cell hol2 _ _ (pcells_get _ i q2 hL2 4 _ rfl)
          have f5':=own_frozen hol2 (i*5+2)
          have f6':=own_frozen hol2 (i*5+4)
          have H4:=Lib.hid (And.intro s4 (And.intro hb4 (And.intro hL2 (And.intro hqm (And.intro hqf hq2)))))
          clear s4 hb4 hL2 hfl2 hol2 hqm hqf hq2 y1 y2 y3 y4 y5 f5
          by_cases hm12:q.mode=12
          ·have k3:(q.mode==12)=true:=by simpa using hm12
           have HM:=Lib.hid hm12
           have k5:=parL_le l (q.fr+1).toNat
           clear hm12
           have k6:IntKind.i64.wrap (q.fr+1)=q.fr+1:=IntWalk.i64_in _ (by omega)
           have k7:IntKind.i64.wrap (q.fr+1+(parL l (q.fr+1).toNat:Int))=q.fr+1+(parL l (q.fr+1).toNat:Int):=IntWalk.i64_in _ (by omega)
           have c1:0≤q.fr+1:=by omega
           have c2:q.fr+1≤100000:=by omega
           have c3':l.length≤100000:=by omega
           go_upto_region 16 with fail
           go_wp2_with fail
           go_region_with (go_at_call 157;with_reducible refine(param_i l (q.fr+1) _ c1 c2 c3').mono ?_;rintro e w' ⟨rfl,rfl⟩)
           all_goals go_wp2_with fail
           all_goals clear k6 k7
           all_goals (
             obtain⟨s4,hb4,hL2,hqm,hqf,hq2⟩:=H4.out
             obtain⟨s3,hb3,hq,hqi⟩:=H3.out
             have e:finP l q=dolP q2 (q.fr+1+(parL l (q.fr+1).toNat:Int)):=by
               unfold finP fin1
               rw[←hq2,if_pos (by rw[hqm];exact HM.out)]
               unfold dolP
               rw[hqf]
             have hsw:=s4.drew.dol hL2 (q.fr+1+(parL l (q.fr+1).toNat:Int))
             rw[List.set_set,←e,finTo_next l cs i q hq] at hsw
             exact⟨⟨i+1,_,by omega,by go_num,hsw,(hb3.trans hb4).trans (((Below.refl _ _).drew.setCell s4.gle _).setCell s4.gle _)⟩,by simp[intOf];omega⟩)
          ·have k3:(q.mode==12)=false:=by simpa using hm12
           have HM:=Lib.hid hm12
           clear hm12
           go_wp2_with fail
           obtain⟨s4,hb4,hL2,hqm,hqf,hq2⟩:=H4.out
           obtain⟨s3,hb3,hq,hqi⟩:=H3.out
           refine⟨⟨i+1,.slice (some ⟨g3,0,none⟩) cs.length c3,by omega,by go_num,?_,hb3.trans hb4⟩,by simp[intOf];omega⟩
           rw[←finTo_next l cs i q hq]
           have e:finP l q=q2:=by unfold finP fin1;rw[←hq2,if_neg (by rw[hqm];exact HM.out)]
           rw[e]
           exact s4
       ·have e2:i=cs.length:=by omega
        have H3:=Lib.hid (And.intro s3 hb3)
        clear s3 hb3 hol y0
        go_wp2_with fail
        go_ret
        obtain⟨s3,hb3⟩:=H3.out
        have e3:finTo l cs i=partsL l:=by unfold finTo partsL;rw[HCS.out,e2,List.take_of_length_le (Nat.le_refl _),List.drop_length,List.append_nil]
        have ho:=s3.ol
        rw[e3] at ho
        exact⟨_,rfl,ho,hb3⟩
end Go.Proofs.YtlbfdbinaekjoaaGreatDoor
namespace Go.Proofs.YtlbfdbinaekjoaaGreatDoor
open Go.RowKit
set_option linter.unusedVariables false
set_option linter.unusedSimpArgs false
set_option maxRecDepth 100000
instance:DecidableEq Prt:=fun⟨a,b,c,d,e⟩ ⟨a2,b2,c2,d2,e2⟩=>decidable_of_iff (a=a2∧b=b2∧c=c2∧d=d2∧e=e2) (by simp)
theorem pcells_at {L:List Prt} {w:World} {B g n c:Nat} (h:w.ownsRow B 149 5 (.slice (some ⟨g,0,none⟩) n c) n (pcells L)) {i:Nat} {q:Prt} (hi:L[i]? = some q) :
    w.cell? ⟨g,i*5,none⟩=some (.int .i64 q.mode)∧w.cell? ⟨g,i*5+1,none⟩=some (.int .i64 q.fr)∧w.cell? ⟨g,i*5+2,none⟩=some (.int .i64 (toP q))∧w.cell? ⟨g,i*5+3,none⟩=some (.int .i64 q.up)∧w.cell? ⟨g,i*5+4,none⟩=some (.bool q.op):=
  ⟨own_cell h _ _ (pcells_get _ i q hi 0 _ rfl),own_cell h _ _ (pcells_get _ i q hi 1 _ rfl),own_cell h _ _ (pcells_get _ i q hi 2 _ rfl),own_cell h _ _ (pcells_get _ i q hi 3 _ rfl),own_cell h _ _ (pcells_get _ i q hi 4 _ rfl)⟩
theorem parts_len (l:List UInt8):(partsL l).length≤l.length:=by unfold partsL;rw[List.length_map];exact canon_len l l.length
end Go.Proofs.YtlbfdbinaekjoaaGreatDoor
