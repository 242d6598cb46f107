/- Motion: the stops of any kind rise. No program is in sight. -/
import Derived.Test.YtgdifhhioahakaaGreatDoorNt29
import Derived.Test.YtgdifhhioahakaaGreatDoorTr13
import Derived.Test.YtgdifhhioahakaaGreatDoorFw29
namespace Go.Proofs.YtgdifhhioahakaaGreatDoor
set_option linter.unusedVariables false
set_option linter.unusedSimpArgs false
set_option maxRecDepth 100000
theorem top_ne (F:List Lf) {i u:Nat} {x y:Nd} (hx:(parseT F).l[i]? = some x) (h3:x.kd=3) (hu:x.up=(u:Int)) (hy:(parseT F).l[u]? = some y) (h2:y.kd=2) (h0:y.up=0):x.fr<x.tt:=by
  obtain⟨s0,hs0⟩:∃s0,s0=({ps0 0 with l:=(ps0 0).l++[⟨1,(ps0 0).p,0,(ps0 0).up⟩],up:=((ps0 0).l.length:Int)}:Ps):=⟨_,rfl⟩
  have hp0:s0.p≤F.length:=by rw[hs0];exact Nat.zero_le _
  have e0:s0.l=[⟨1,0,0, -1⟩]:=by rw[hs0];rfl
  have eu:s0.up=0:=by rw[hs0];rfl
  have hg:=(gd_prog (gd_lstF F (F.length+1)) _ (s0,false) rfl hp0).1
  obtain⟨m,g1,g2⟩:=hg.f
  replace g1:(progP F (lstA F) (s0,false)).1.l=s0.l++m:=g1
  have hl:(parseT F).l=⟨1,0,(progP F (lstA F) (s0,false)).1.p, -1⟩::m:=by
    show ndTo (progP F (lstA F) ({ps0 0 with l:=(ps0 0).l++[⟨1,(ps0 0).p,0,(ps0 0).up⟩],up:=((ps0 0).l.length:Int)},false)).1.l 0 (progP F (lstA F) ({ps0 0 with l:=(ps0 0).l++[⟨1,(ps0 0).p,0,(ps0 0).up⟩],up:=((ps0 0).l.length:Int)},false)).1.p=_
    rw[←hs0,g1,e0]
    rfl
  rw[hl] at hx hy
  have hu1:u≠0:=fun e=>by
    subst e
    have hy:(⟨1,0,(progP F (lstA F) (s0,false)).1.p, -1⟩:Nd)=y:=by simpa using hy
    rw[←hy] at h2
    cases h2
  have hi1:i≠0:=fun e=>by
    subst e
    have hx:(⟨1,0,(progP F (lstA F) (s0,false)).1.p, -1⟩:Nd)=x:=by simpa using hx
    rw[←hx] at h3
    cases h3
  obtain⟨j,rfl⟩:∃j,i=j+1:=⟨i-1,by omega⟩
  obtain⟨v,rfl⟩:∃v,u=v+1:=⟨u-1,by omega⟩
  rw[List.getElem?_cons_succ] at hx hy
  refine prog_roots (gd_lstF F F.length) (gd_lstF F (F.length+1)) _ (s0,false) rfl hp0 (by show s0.up<(s0.l.length:Int);rw[eu,e0];decide) (fun q hq=>by
    replace hq:q∈s0.l:=hq
    show q.up<(s0.l.length:Int)
    rw[e0] at hq ⊢
    rw[List.mem_singleton.1 hq]
    decide) (v+1) y (by show s0.l.length≤_;rw[e0];simp) ?_ h2 (by rw[h0];exact eu.symm) x ?_ hu h3
  ·show (progP F (lstA F) (s0,false)).1.l[v+1]? = _
   rw[g1,e0]
   exact hy
  ·show x∈(progP F (lstA F) (s0,false)).1.l
   rw[g1]
   exact List.mem_append_right _ (List.mem_of_getElem? hx)
theorem Anc.le29 {l:List Nd} {a b:Nat} (h:Anc l a b):a≤b:=by
  induction h with
  | refl=>exact Nat.le_refl _
  | step _ _ h3 _ ih=>omega
theorem anc_all {L:List Nd} (h:RowOk L):∀(j a c:Nat),Anc L a j→a≤c→c≤j→Anc L a c:=by
  intro j
  induction j using Nat.strongRecOn with
  | _ j ih=>
    intro a c ha hac hcj
    by_cases hcj2:c=j
    ·rw[hcj2];exact ha
    ·cases ha with
     | refl=>omega
     | @step _ p n h1 h2 h3 h4=>
       obtain⟨u,m,k1,k2,k3,_⟩:=(h j n h1).u (by omega)
       obtain rfl:u=p:=by omega
       rcases Nat.lt_or_ge u c with hpc|hpc
       ·exact h4.trans (ih (j-1) (by omega) _ c k3 (by omega) (by omega))
       ·exact ih _ h3 a c h4 hac hpc
theorem row_tt29 {L:List Nd} {N:Nat} (h:RowOk L) (h0:L[0]? = some ⟨1,0,N, -1⟩):∀(i:Nat) (x:Nd),L[i]? = some x→x.tt≤N:=by
  intro i
  induction i using Nat.strongRecOn with
  | ind i ih=>
    intro x hx
    by_cases hi:i=0
    ·subst hi
     rw[h0] at hx
     injection hx with hx
     subst hx
     exact Nat.le_refl _
    ·obtain⟨u,m,_,hu,_,hm,_,h6,_⟩:=(h i x hx).u (by omega)
     exact Nat.le_trans h6 (ih u hu m hm)
theorem topB_of {L:List Nd} {i:Nat} (h:topB L i=true):∃x u y,L[i]? = some x∧x.kd=3∧x.up=((u+1:Nat):Int)∧L[u+1]? = some y∧y.kd=2∧y.up=0:=by
  unfold topB at h
  split at h
  ·rename_i x hx
   simp only[Bool.and_eq_true,beq_iff_eq,decide_eq_true_eq] at h
   obtain⟨⟨⟨h1,h2⟩,h3⟩,h4⟩:=h
   unfold topX at h4
   obtain⟨u,hu⟩:∃u:Nat,x.up=((u+1:Nat):Int):=⟨x.up.toNat-1,by omega⟩
   rw[hu,Int.toNat_natCast] at h4
   split at h4
   ·rename_i y hy
    simp only[Bool.and_eq_true,beq_iff_eq] at h4
    exact⟨x,u,y,hx,h1,hu,hy,h4.1,h4.2⟩
   ·cases h4
  ·cases h
theorem top_two {L:List Nd} {N:Nat} (h:RowOk L) (h0:L[0]? = some ⟨1,0,N, -1⟩) {k i:Nat} (hki:k<i) {q x:Nd} (hk:topB L k=true) (hi:topB L i=true) (hq:L[k]? = some q) (hx:L[i]? = some x):q.tt≤x.fr:=by
  obtain⟨q',uk,yk,a1,a2,a3,a4,a5,a6⟩:=topB_of hk
  obtain⟨x',ui,yi,b1,b2,b3,b4,b5,b6⟩:=topB_of hi
  rw[hq] at a1
  cases a1
  rw[hx] at b1
  cases b1
  have hk0:0<k:=Nat.pos_of_ne_zero fun e=>by
    subst e
    rw[h0] at hq
    cases hq
    cases a2
  obtain⟨u1,m1,c1,c2,c3,c4,c5,c6,c7⟩:=(h i x hx).u (by omega)
  obtain⟨u2,m2,d1,d2,d3,d4,d5,d6,d7⟩:=(h k q hq).u hk0
  obtain rfl:u1=ui+1:=by omega
  obtain rfl:u2=uk+1:=by omega
  rw[b4] at c4
  cases c4
  rw[a4] at d4
  cases d4
  rcases Nat.lt_trichotomy uk ui with hlt|rfl|hgt
  ·obtain⟨_,_,e1,_,_,_,_,_,e7⟩:=(h _ _ b4).u (by omega)
   have:=e7 (uk+1) yk (by omega) (by omega) a4 (by rw[a6,b6])
   omega
  ·exact c7 k q hk0 hki hq (by omega)
  ·exfalso
   have hA:=anc_all h (i-1) (ui+1) (uk+1) c3 (by omega) (by omega)
   cases hA with
   | refl=>omega
   | @step _ p n h1 h2 h3 h4=>
     rw[a4] at h1
     cases h1
     have:=h4.le29
     omega
theorem leaves_rise (l:List UInt8):∀(ts:List Tk) (x:Nat),tileP l ts x→(∀y∈leavesZ l (ts.map tz3),(x:Int)≤y.fr∧y.fr<(l.length:Int))∧(leavesZ l (ts.map tz3)).Pairwise (fun a b=>a.fr<b.fr)
  | [],x,_=>⟨fun y hy=>(by have hy:y∈([]:List Lf):=hy;cases hy),List.Pairwise.nil⟩
  | t::r,x,⟨h1,h2,h3,h4,h5,h6⟩=>by
    obtain⟨i1,i2⟩:=leaves_rise l r t.to h6
    have e:leavesZ l ((t::r).map tz3)=leafZ l (tz3 t)++leavesZ l (r.map tz3):=rfl
    have ht:∀y∈leafZ l (tz3 t),y.fr=(x:Int):=fun y hy=>by
      have:=(leafZ_fr hy).2.1
      rw[this]
      show (t.fr:Int)=_
      omega
    rw[e]
    refine⟨fun y hy=>?_,?_⟩
    ·rcases List.mem_append.1 hy with hy|hy
     ·have:=ht y hy;omega
     ·have:=i1 y hy;omega
    ·rw[List.pairwise_append]
     refine⟨?_,i2,fun a ha b hb=>?_⟩
     ·unfold leafZ
      split<;>simp
     ·have:=ht a ha;have:=i1 b hb;omega
theorem lvs3_rise (l:List UInt8):(∀y∈lvs3 l,0≤y.fr∧y.fr<(l.length:Int))∧(lvs3 l).Pairwise (fun a b=>a.fr<b.fr):=leaves_rise l _ 0 (tile_lexL l)
theorem cmd_ok (l:List UInt8):CmdOk l∧((cmdL l).map fun (n:Nat)=>(n:Int)).Pairwise (· < ·)∧∀x∈cmdL l,x<l.length:=by
  unfold CmdOk cmdL
  obtain⟨F,hF⟩:∃F,F=lvs3 l:=⟨_,rfl⟩
  obtain⟨r1,r2⟩:=lvs3_rise l
  rw[←hF] at r1 r2 ⊢
  obtain⟨h,r,hr⟩:=parse_row F
  have h0:(parseT F).l[0]? = some ⟨1,0,F.length, -1⟩:=by rw[hr];rfl
  have htt:=row_tt29 h h0
  have key:∀i∈topK (parseT F).l (parseT F).l.length,∃x y,(parseT F).l[i]? = some x∧F[x.fr]? = some y∧x.fr<x.tt:=fun i hi=>by
    have hb:=(List.mem_filter.1 hi).2
    obtain⟨x,u,y,a1,a2,a3,a4,a5,a6⟩:=topB_of hb
    have hne:=top_ne F a1 a2 a3 a4 a5 a6
    have:=htt i x a1
    exact⟨x,_,a1,List.getElem?_eq_getElem (by omega),hne⟩
  refine⟨fun i hi=>?_,?_,fun x hx=>?_⟩
  ·obtain⟨x,y,a,b,_⟩:=key i hi
   exact⟨x,y,a,b⟩
  ·rw[List.map_map,List.pairwise_map]
   have hp:(topK (parseT F).l (parseT F).l.length).Pairwise (· < ·):=List.Pairwise.filter _ List.pairwise_lt_range
   refine List.Pairwise.imp_of_mem ?_ hp
   intro k i hk hi hki
   obtain⟨q,y,a1,a2,a3⟩:=key k hk
   obtain⟨x,z,b1,b2,b3⟩:=key i hi
   have ht:=top_two h h0 hki (List.mem_filter.1 hk).2 (List.mem_filter.1 hi).2 a1 b1
   show ((cmdAt F (parseT F).l k:Nat):Int)<((cmdAt F (parseT F).l i:Nat):Int)
   unfold cmdAt
   rw[a1,b1]
   simp only
   rw[a2,b2]
   simp only
   obtain⟨p1,p2⟩:=List.getElem?_eq_some_iff.1 a2
   obtain⟨p3,p4⟩:=List.getElem?_eq_some_iff.1 b2
   have:=List.pairwise_iff_getElem.1 r2 q.fr x.fr p1 p3 (by omega)
   rw[p2,p4] at this
   have g1:=(r1 y (List.mem_of_getElem? a2)).1
   have g2:=(r1 z (List.mem_of_getElem? b2)).1
   omega
  ·obtain⟨i,hi,rfl⟩:=List.mem_map.1 hx
   obtain⟨x,y,a1,a2,a3⟩:=key i hi
   unfold cmdAt
   rw[a1]
   simp only
   rw[a2]
   simp only
   have:=r1 y (List.mem_of_getElem? a2)
   omega
theorem bnd_btw (bg:UInt8→UInt8→Bool) (l:List UInt8):Btw ((bndK bg l l.length).map fun (n:Nat)=>(n:Int)) (l.length:Int):=by
  refine⟨?_,fun x hx=>?_⟩
  ·rw[List.pairwise_map]
   exact(List.Pairwise.filter _ List.pairwise_lt_range).imp fun h=>by omega
  ·obtain⟨n,hn,rfl⟩:=List.mem_map.1 hx
   have:=List.mem_range.1 (List.mem_filter.1 hn).1
   omega
theorem lv_btw (l:List UInt8):Btw ((lvB l).map fun (n:Nat)=>(n:Int)) (l.length:Int):=by
  obtain⟨r1,r2⟩:=lvs3_rise l
  unfold lvB
  generalize lvs3 l=F at *
  induction F with
  | nil=>exact⟨.nil,fun x hx=>by cases hx⟩
  | cons y r ih=>
    rw[List.pairwise_cons] at r2
    obtain⟨i1,i2⟩:=ih (fun z hz=>r1 z (List.mem_cons_of_mem _ hz)) r2.2
    rw[List.flatMap_cons,List.map_append]
    have hy:=r1 y (by simp)
    have hm:∀z∈(lv1 y).map (fun (n:Nat)=>(n:Int)),z=y.fr:=fun z hz=>by
      unfold lv1 at hz
      split at hz
      ·cases hz
      ·simp at hz;omega
    have hr:∀z∈(r.flatMap lv1).map (fun (n:Nat)=>(n:Int)),y.fr<z:=fun z hz=>by
      obtain⟨n,hn,rfl⟩:=List.mem_map.1 hz
      obtain⟨q,hq,hn⟩:=List.mem_flatMap.1 hn
      have h1:=r2.1 q hq
      have h2:=r1 q (List.mem_cons_of_mem _ hq)
      unfold lv1 at hn
      split at hn
      ·cases hn
      ·simp at hn;omega
    refine⟨?_,fun z hz=>?_⟩
    ·rw[List.pairwise_append]
     refine⟨?_,i1,fun a ha b hb=>?_⟩
     ·unfold lv1;split<;>simp
     ·rw[hm a ha];exact hr b hb
    ·rcases List.mem_append.1 hz with hz|hz
     ·rw[hm z hz];exact hy
     ·exact i2 z hz
theorem rise_len:∀(l:List Nat) (b n:Nat),l.Pairwise (· < ·)→(∀x∈l,b≤x∧x<n)→b≤n→l.length+b≤n
  | [],b,n,_,_,h=>by simpa using h
  | a::r,b,n,hp,hx,h=>by
    rw[List.pairwise_cons] at hp
    have h1:=hx a (by simp)
    have h2:=rise_len r (a+1) n hp.2 (fun x hr=>⟨hp.1 x hr,(hx x (List.mem_cons_of_mem _ hr)).2⟩) (by omega)
    rw[List.length_cons]
    omega
theorem stop_ok (l:List UInt8) (k:Int) (hl:l.length≤900):StopOk l k:=by
  obtain⟨c1,c2,c3⟩:=cmd_ok l
  have hb:Btw (btwI l k) (l.length:Int):=by
    unfold btwI btwB
    repeat' split
    ·exact bnd_btw _ l
    ·exact bnd_btw _ l
    ·exact bnd_btw _ l
    ·exact bnd_btw _ l
    ·exact lv_btw l
    ·exact⟨c2,fun x hx=>by
       obtain⟨n,hn,rfl⟩:=List.mem_map.1 hx
       have:=c3 n hn
       omega⟩
    ·exact⟨.nil,fun x hx=>by cases hx⟩
  refine⟨c1,hb,?_,hl⟩
  have h1:(btwB l k).Pairwise (· < ·):=by
    have:=hb.rise
    unfold btwI at this
    rw[List.pairwise_map] at this
    exact this.imp fun h=>by omega
  have h2:∀x∈btwB l k,x<l.length:=fun x hx=>by
    have:=hb.rng (x:Int) (List.mem_map.2 ⟨x,hx,rfl⟩)
    omega
  have h3:=rise_len _ 0 _ h1 (fun x hx=>⟨Nat.zero_le _,h2 x hx⟩) (Nat.zero_le _)
  omega
end Go.Proofs.YtgdifhhioahakaaGreatDoor
