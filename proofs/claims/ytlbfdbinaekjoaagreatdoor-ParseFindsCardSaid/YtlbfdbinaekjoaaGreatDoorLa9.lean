/- Each part by the frames that make it: from where to where it goes. No program is in sight. -/
import Derived.Test.YtlbfdbinaekjoaaGreatDoorPl6
import Derived.Test.YtlbfdbinaekjoaaGreatDoorCls
namespace Go.Proofs.YtlbfdbinaekjoaaGreatDoor
set_option linter.unusedVariables false
set_option linter.unusedSimpArgs false
set_option maxRecDepth 100000
def Alive (l:List UInt8) (f k:Nat):Prop:=(f:Int)∈pls (FT l k)
theorem alive_lt {l:List UInt8} {f k:Nat} (h:Alive l f k):f<k:=by have:=(FT_rise l k).2 _ h;omega
theorem alive_back {l:List UInt8} {f k:Nat} (h:Alive l f (k+1)) (hk:k≠f):Alive l f k:=by
  obtain⟨j,A,B,hF,hj,hA,hB⟩:=FT_split l k
  unfold Alive at h
  rw[hF,pls,List.map_append] at h
  rcases List.mem_append.1 h with h|h
  ·have h':(f:Int)∈pls A:=h
   rw[hA] at h'
   exact List.mem_of_mem_take h'
  ·rcases hB with rfl|⟨c,rfl⟩
   ·cases h
   ·simp at h;omega
theorem alive_down {l:List UInt8} {f k:Nat} (h:Alive l f k):∀j,f<j→j≤k→Alive l f j:=by
  induction k with
  | zero=>intro j h1 h2;have:=alive_lt h;omega
  | succ k ih=>
    intro j h1 h2
    by_cases e:j=k+1
    ·subst e;exact h
    ·exact ih (alive_back h (by omega)) j h1 (by omega)
theorem new_at {l:List UInt8} {f:Nat} (h:Alive l f (f+1)):∃A c,FT l (f+1)=A++[(c,(f:Int))]∧∀p∈pls A,p∈pls (FT l f):=by
  obtain⟨j,A,B,hF,hj,hA,hB⟩:=FT_split l f
  have hs:∀p∈pls A,p∈pls (FT l f):=fun p hp=>by rw[hA] at hp;exact List.mem_of_mem_take hp
  rcases hB with rfl|⟨c,rfl⟩
  ·unfold Alive at h
   rw[hF,List.append_nil] at h
   have:=(FT_rise l f).2 _ (hs _ h)
   omega
  ·exact⟨A,c,hF,hs⟩
theorem cnt_76 (c:UInt8):cnt c=12↔c.toNat=76:=by
  have:=byte_all (fun c=>decide (cnt c=12)==decide (c.toNat=76)) (by decide +kernel) c
  simpa using this
theorem dol_top {l:List UInt8} {f k:Nat} {c:UInt8} (h:(c,(f:Int))∈FT l k) (hc:c.toNat=76):k=f+1∧∃d p r,(rAt l k).1=(76,(f:Int))::(d,p)::r:=by
  have hm:(c,(f:Int))∈(rAt l k).1:=by rw[rAt_split];exact List.mem_append_left _ (by simpa [FT] using h)
  rcases rAt_d l k with h1|⟨d,q,r,he,h1,_,_⟩
  ·exact absurd hc (h1 _ hm)
  ·rw[he] at hm
   rcases List.mem_cons.1 hm with hm|hm
   ·simp only[Prod.mk.injEq] at hm
    exact⟨by omega,d,q,r,by rw[he,hm.2]⟩
   ·exact absurd hc (h1 _ hm)
theorem scan_spec (F:Nat→Stk) (fr:Int) (n:Nat):∀(m k:Nat) (q:Prt),q.op=true →
    (scanR F fr n m k q).fr=q.fr∧(scanR F fr n m k q).up=q.up ∧
    (((scanR F fr n m k q).op=true∧(scanR F fr n m k q).to=q.to∧(∀j,k≤j→j<k+m→fr∈pls (F j)))∨((scanR F fr n m k q).op=false∧∃e:Nat,k≤e∧e<k+m∧(scanR F fr n m k q).to=e∧fr∉pls (F e)∧∀j,k≤j→j<e→fr∈pls (F j))) ∧
    (((scanR F fr n m k q).mode=q.mode∧(fr∉pls (F k)∨m=0))∨∃e,k≤e∧e<k+m∧fr∈pls (F e)∧(scanR F fr n m k q).mode=cnt ((F e).getD (n-1) (0,0)).1)
  | 0,k,q,ho=>⟨rfl,rfl,.inl ⟨ho,rfl,fun j _ _=>by omega⟩,.inl ⟨rfl,.inr rfl⟩⟩
  | m+1,k,q,ho=>by
    unfold scanR
    by_cases hm:fr∈pls (F k)
    ·rw[if_neg (fun h=>atR_zero.1 h hm)]
     obtain⟨h1,h2,h3,h4⟩:=scan_spec F fr n m (k+1) {q with mode:=cnt ((F k).getD (n-1) (0,0)).1} ho
     refine⟨h1,h2,?_,.inr ?_⟩
     ·rcases h3 with ⟨h3,h5,h6⟩|⟨h3,e,h5,h6,h7,h8,h9⟩
      ·refine .inl ⟨h3,h5,fun j hj hj2=>?_⟩
       by_cases e:j=k
       ·subst e;exact hm
       ·exact h6 j (by omega) (by omega)
      ·refine .inr ⟨h3,e,by omega,by omega,h7,h8,fun j hj hj2=>?_⟩
       by_cases e:j=k
       ·subst e;exact hm
       ·exact h9 j (by omega) (by omega)
     ·rcases h4 with ⟨h4,_⟩|⟨e,h5,h6,h7,h8⟩
      ·exact⟨k,Nat.le_refl _,by omega,hm,h4⟩
      ·exact⟨e,by omega,by omega,h7,h8⟩
    ·rw[if_pos (atR_zero.2 hm)]
     exact⟨rfl,rfl,.inr ⟨rfl,k,Nat.le_refl _,by omega,rfl,hm,fun j _ _=>by omega⟩,.inl ⟨rfl,.inl hm⟩⟩
structure PI (l:List UInt8) (q:Prt) (f:Nat):Prop where
  fr:q.fr=f
  lt:f<l.length
  al:Alive l f (f+1)
  up:q.up=upI (FT l (f+1)) (canon l f)
  kind:(q.mode≠12∧((q.op=true∧q.to=l.length∧∀j,f<j→j≤l.length→Alive l f j)∨(q.op=false∧∃e:Nat,f+1<e∧e≤l.length∧q.to=e∧¬Alive l f e∧∀j,f<j→j<e→Alive l f j))∧∀c:UInt8,(c,(f:Int))∈FT l (f+1)→c.toNat=76→Alive l f (f+2)) ∨
    (q.mode=12∧q.op=false∧q.to=f+1+(parL l (f+1):Int)∧(∃d p r,(rAt l (f+1)).1=(76,(f:Int))::(d,p)::r)∧(f+2≤l.length→¬Alive l f (f+2)))
theorem pi_of {l:List UInt8} {f:Nat} (hf:f<l.length) {q:Prt} (hq:q∈newP (FT l (f+1)) f (canon l f)):PI l (finP l (evol l (l.length-(f+1)) (f+2) q)) f:=by
  have hal:Alive l f (f+1):=by
    refine Classical.byContradiction fun h=>?_
    rw[newP_none (fun p hp e=>h (by unfold Alive;rw[←e];exact hp))] at hq
    cases hq
  obtain⟨A,c,hF,hs⟩:=new_at hal
  rw[newP_of hF] at hq
  simp only[List.mem_singleton] at hq
  have h0:(pls (FT l (f+1)))[A.length]? = some (f:Int):=by rw[hF];simp[pls]
  have hop:q.op=true:=by rw[hq]
  have hfr:q.fr=f:=by rw[hq]
  have hup:q.up=upI (FT l (f+1)) (canon l f):=by rw[hq]
  have hmd:q.mode=cnt c:=by rw[hq]
  have hse:=scan_evol l f (A.length+1) (fun k hk hm=>idx_const l f A.length h0 k hk hm) (l.length-(f+1)) (f+2) q hop hfr (by omega)
  obtain⟨s1,s2,s3,s4⟩:=scan_spec (FT l) f (A.length+1) (l.length-(f+1)) (f+2) {q with to:=l.length} hop
  unfold finP
  rw[←hse]
  generalize scanR (FT l) f (A.length+1) (l.length-(f+1)) (f+2) {q with to:=l.length}=r at *
  have r1:r.fr=f:=s1.trans hfr
  have r2:r.up=upI (FT l (f+1)) (canon l f):=s2.trans hup
  by_cases hm:r.mode=12
  ·have e:fin1 l r={r with to:=r.fr+1+(parL l (r.fr+1).toNat:Int),op:=false}:=by unfold fin1;rw[if_pos hm]
   rw[e]
   have hx:cnt c=12∧((f:Int)∉pls (FT l (f+2))∨l.length-(f+1)=0):=by
     rcases s4 with ⟨s4,s5⟩|⟨e,h1,h2,h3,h4⟩
     ·rw[hm] at s4
      exact⟨by rw[←hmd];exact s4.symm,s5⟩
     ·exfalso
      rw[hm] at h4
      have hc:=(cnt_76 _).1 h4.symm
      have h5:=idx_const l f A.length h0 e (by omega) h3
      rw[Nat.add_sub_cancel] at hc
      rw[List.getElem?_map] at h5
      cases hy:(FT l e)[A.length]? with
      | none=>rw[hy] at h5;cases h5
      | some y=>
        rw[hy] at h5
        obtain⟨c',p'⟩:=y
        simp at h5
        subst h5
        rw[List.getD_eq_getElem?_getD,hy] at hc
        have:=(dol_top (List.mem_of_getElem? hy) hc).1
        omega
   have hc:=(cnt_76 c).1 hx.1
   refine⟨r1,hf,hal,r2,.inr ⟨hm,rfl,?_,(dol_top (c:=c) (by rw[hF];simp) hc).2,?_⟩⟩
   ·show r.fr+1+(parL l (r.fr+1).toNat:Int)=_
    rw[r1]
    rfl
   ·intro h2
    rcases hx.2 with h|h
    ·exact h
    ·omega
  ·have e:fin1 l r=r:=by unfold fin1;rw[if_neg hm]
   rw[e]
   refine⟨r1,hf,hal,r2,.inl ⟨hm,?_,?_⟩⟩
   rotate_left
   ·intro c' hc' h76
    rcases s4 with ⟨s4,s5⟩|⟨e,h1,h2,h3,h4⟩
    ·exfalso
     obtain⟨i,hi⟩:=List.mem_iff_getElem?.1 hc'
     have hi2:(pls (FT l (f+1)))[i]? = some (f:Int):=by rw[List.getElem?_map,hi];rfl
     have:=nodup_idx (FT_nodup l (f+1)) hi2 h0
     subst this
     rw[hF] at hi
     simp at hi
     subst hi
     exact hm (by rw[s4];show q.mode=12;rw[hmd];exact(cnt_76 _).2 h76)
    ·exact alive_down h3 (f+2) (by omega) (by omega)
   rcases s3 with ⟨h1,h2,h3⟩|⟨h1,e,h2,h3,h4,h5,h6⟩
   ·refine .inl ⟨h1,h2,fun j hj hj2=>?_⟩
    by_cases e:j=f+1
    ·subst e;exact hal
    ·exact h3 j (by omega) (by omega)
   ·refine .inr ⟨h1,e,by omega,by omega,h4,h5,fun j hj hj2=>?_⟩
    by_cases e:j=f+1
    ·subst e;exact hal
    ·exact h6 j (by omega) (by omega)
theorem parts_flat (l:List UInt8):partsL l=(List.range l.length).flatMap (fun f=>(newP (FT l (f+1)) f (canon l f)).map fun q=>finP l (evol l (l.length-(f+1)) (f+2) q)):=by
  rw[←outR_parts];exact(outR_canon l l.length (Nat.le_refl _)).1
theorem frs_parts (l:List UInt8):frs (partsL l)=frs (canon l l.length):=by
  unfold partsL
  simp only[frs,List.map_map]
  exact List.map_congr_left fun q _=>finP_fr l q
theorem parts_rise (l:List UInt8):(frs (partsL l)).Pairwise (· < ·):=by rw[frs_parts];exact(canon_ci l l.length).rise
end Go.Proofs.YtlbfdbinaekjoaaGreatDoor
namespace Go.Proofs.YtlbfdbinaekjoaaGreatDoor
set_option linter.unusedVariables false
set_option linter.unusedSimpArgs false
set_option maxRecDepth 100000
theorem pi_to {l:List UInt8} {q:Prt} {f:Nat} (hq:PI l q f):(f:Int)<q.to∧q.to≤(l.length:Int):=by
  have hfl:=hq.lt
  rcases hq.kind with ⟨_,h,_⟩|⟨_,_,h,_,_⟩
  ·rcases h with ⟨_,h,_⟩|⟨_,e,h1,h2,h3,_⟩
   ·rw[h];omega
   ·rw[h3];omega
  ·have:=parL_le l (f+1)
   rw[h];omega
theorem rise_lt {L:List Prt} (hr:(frs L).Pairwise (· < ·)) {i k:Nat} {p q:Prt} (hi:L[i]? = some p) (hk:L[k]? = some q):k<i↔q.fr<p.fr:=by
  obtain⟨h1,h2⟩:=List.getElem?_eq_some_iff.1 hi
  obtain⟨h3,h4⟩:=List.getElem?_eq_some_iff.1 hk
  have hp:=List.pairwise_iff_getElem.1 hr
  have g1:(frs L)[i]'(by simpa using h1)=p.fr:=by simp[frs,h2]
  have g3:(frs L)[k]'(by simpa using h3)=q.fr:=by simp[frs,h4]
  constructor
  ·intro h
   have:=hp k i (by simpa using h3) (by simpa using h1) h
   rwa [g1,g3] at this
  ·intro h
   refine Nat.lt_of_not_le fun hh=>?_
   rcases Nat.lt_or_eq_of_le hh with h5|h5
   ·have:=hp i k (by simpa using h1) (by simpa using h3) h5
    rw[g1,g3] at this
    omega
   ·subst h5
    rw[hi] at hk
    injection hk with hk
    subst hk
    omega
theorem getD_some {L:List Prt} {k:Nat} {q:Prt} (h:L[k]? = some q):L.getD k dP=q:=by rw[List.getD_eq_getElem?_getD,h];rfl
end Go.Proofs.YtlbfdbinaekjoaaGreatDoor
namespace Go.Proofs.YtlbfdbinaekjoaaGreatDoor
set_option linter.unusedVariables false
set_option linter.unusedSimpArgs false
set_option maxRecDepth 100000
end Go.Proofs.YtlbfdbinaekjoaaGreatDoor
namespace Go.Proofs.YtlbfdbinaekjoaaGreatDoor
set_option linter.unusedVariables false
set_option linter.unusedSimpArgs false
set_option maxRecDepth 100000
theorem cnt_88 (c:UInt8):cnt c=13↔c.toNat=88:=by
  have:=byte_all (fun c=>decide (cnt c=13)==decide (c.toNat=88)) (by decide +kernel) c
  simpa using this
def PX (st:Stk) (a:Int) (x:Stk×Bool):Prop:=∀y∈x.1,y.1=88→y∈st∨y.2=a
theorem PX.same {st:Stk} {a:Int} {f:Bool}:PX st a (st,f):=fun y hy _=>.inl hy
theorem PX.tail {st:Stk} {a:Int} {f:Bool}:PX st a (st.tail,f):=fun y hy _=>.inl (List.mem_of_mem_tail hy)
theorem PX.push {st:Stk} {a:Int} {f:Bool} {c:UInt8}:PX st a ((c,a)::st,f):=fun y hy _=>by
  rcases List.mem_cons.1 hy with rfl|hy
  ·exact .inr rfl
  ·exact .inl hy
theorem PX.turn {r:Stk} {a p:Int} {f:Bool} {c d:UInt8} (hc:c≠88):PX ((d,p)::r) a ((c,p)::r,f):=fun y hy h=>by
  rcases List.mem_cons.1 hy with rfl|hy
  ·exact absurd h hc
  ·exact .inl (List.mem_cons_of_mem _ hy)
theorem PX.deep {r:Stk} {a:Int} {y:UInt8×Int} {x:Stk×Bool} (h:PX r a x):PX (y::r) a x:=fun z hz e=>by
  rcases h z hz e with h1|h1
  ·exact .inl (List.mem_cons_of_mem _ h1)
  ·exact .inr h1
theorem PX.other {r:Stk} {a p:Int} {c d:UInt8} {x:Stk×Bool} (hc:c≠88) (h:PX ((c,p)::r) a x):PX ((d,p)::r) a x:=fun z hz e=>by
  rcases h z hz e with h1|h1
  ·rcases List.mem_cons.1 h1 with rfl|h1
   ·exact absurd e hc
   ·exact .inl (List.mem_cons_of_mem _ h1)
  ·exact .inr h1
theorem rProgram_px (st:Stk) (f:Bool) (c b:UInt8) (a:Int):PX st a (rProgram st f c b a):=by
  unfold rProgram
  repeat' (refine ite_ok (PX st a) (fun _=>?_) (fun _=>?_))
  all_goals first
    | exact PX.push
    | exact PX.tail
    | exact PX.same
theorem rPlain_px (st:Stk) (f:Bool) (c b:UInt8) (a:Int):PX st a (rPlain st f c b a):=by
  unfold rPlain
  repeat' (refine ite_ok (PX st a) (fun _=>?_) (fun _=>?_))
  all_goals first
    | exact rProgram_px _ _ _ _ _
    | exact PX.push
    | exact PX.tail
    | exact PX.same
    | (cases st with
       | nil=>exact PX.same
       | cons y r=>exact PX.turn (by decide))
theorem rStep_px (st:Stk) (f:Bool) (b:UInt8) (a:Int):PX st a (rStep st f b a):=by
  match st with
  | []=>exact PX.same
  | (c,p)::r=>
    unfold rStep
    refine ite_ok (PX ((c,p)::r) a) (fun _=>?_) (fun _=>?_)
    ·refine ite_ok (PX ((c,p)::r) a) (fun _=>PX.turn (by decide)) (fun _=>?_)
     refine ite_ok (PX ((c,p)::r) a) (fun _=>?_) (fun _=>?_)
     ·cases r with
      | nil=>exact PX.turn (by decide)
      | cons y r=>exact ite_ok (PX ((c,p)::y::r) a) (fun _=>PX.turn (by decide)) (fun _=>PX.turn (by decide))
     ·refine ite_ok (PX ((c,p)::r) a) (fun _=>PX.same.deep) (fun _=>?_)
      cases r with
      | nil=>exact PX.same.deep
      | cons y r=>exact(rPlain_px _ _ _ _ _).deep
    ·refine ite_ok (PX ((c,p)::r) a) (fun _=>?_) (fun _=>?_)
     ·exact ite_ok (PX ((c,p)::r) a) (fun _=>PX.turn (by decide)) (fun _=>(rPlain_px _ _ _ _ _).other (by decide))
     ·refine ite_ok (PX ((c,p)::r) a) (fun _=>?_) (fun _=>rPlain_px _ _ _ _ _)
      exact ite_ok (PX ((c,p)::r) a) (fun _=>PX.same.deep) (fun _=>(rPlain_px _ _ _ _ _).other (by decide))
theorem esc_young {l:List UInt8} {f k:Nat} {c:UInt8} (hk:f+2≤k) (h:(c,(f:Int))∈FT l k):c.toNat≠88:=by
  intro hc
  obtain rfl:c=88:=UInt8.toNat_inj.1 hc
  obtain⟨k,rfl⟩:∃k',k=k'+1:=⟨k-1,by omega⟩
  have hm:((88:UInt8),(f:Int))∈(rAt l (k+1)).1:=by rw[rAt_split];exact List.mem_append_left _ (by simpa [FT] using h)
  have hs:(rAt l (k+1)).1=(rStep (rAt l k).1 (rAt l k).2 (l.getD k 0) k).1:=rfl
  rcases rStep_px (rAt l k).1 (rAt l k).2 (l.getD k 0) k _ (by rw[←hs];exact hm) rfl with h1|h1
  ·have hv:=rAt_v l k
   have hx:=rAt_split l k
   have hnd:(pls (XT l k)).Nodup:=by rw[List.nodup_iff_pairwise_ne];exact(XT_fall l k).1.imp (fun h=>by omega)
   cases hst:(rAt l k).1 with
   | nil=>rw[hst] at h1;cases h1
   | cons y r=>
     obtain⟨d,p⟩:=y
     rw[hst] at h1 hv
     rcases List.mem_cons.1 h1 with h2|h2
     ·simp only[Prod.mk.injEq] at h2
      obtain⟨rfl,rfl⟩:=h2
      have e:(rStep (rAt l k).1 (rAt l k).2 (l.getD k 0) k).1=r:=by rw[hst];unfold rStep rPlain;simp
      rw[hs,e] at hm
      have hX:((88:UInt8),(f:Int))∈XT l k:=by
        have:((88:UInt8),(f:Int))∈(rAt l k).1:=by rw[hst];exact List.mem_cons_self
        rw[hx] at this
        rcases List.mem_append.1 this with h3|h3
        ·exact h3
        ·simp at h3
      cases hXT:XT l k with
      | nil=>rw[hXT] at hX;cases hX
      | cons z Z=>
        rw[hXT] at hx hnd
        rw[hst,List.cons_append] at hx
        injection hx with hz hr
        subst hz
        rw[hr] at hm
        simp only[pls,List.map_cons,List.nodup_cons] at hnd
        rcases List.mem_append.1 hm with h3|h3
        ·exact hnd.1 (List.mem_map.2 ⟨_,h3,rfl⟩)
        ·simp at h3
     ·have:=hv.2 _ h2
      exact absurd (show Mid 88=true from this) (by decide)
  ·simp at h1
   omega
theorem part_two {l:List UInt8} {q:Prt} (h:q∈partsL l):∃f t:Nat,q.fr=f∧q.to=t∧f<t∧t≤l.length∧(q.mode≠12→q.op=false→f+2≤t)∧(q.op=true→t=l.length)∧(q.mode=13→t≤f+2):=by
  have h0:=h
  rw[parts_flat] at h
  obtain⟨f,hf,hq⟩:=List.mem_flatMap.1 h
  have hf:=List.mem_range.1 hf
  obtain⟨q0,hq0,rfl⟩:=List.mem_map.1 hq
  have hp:=pi_of hf hq0
  have hto:=pi_to hp
  obtain⟨t,ht⟩:∃t:Nat,(finP l (evol l (l.length-(f+1)) (f+2) q0)).to=t:=⟨_,(Int.toNat_of_nonneg (by omega)).symm⟩
  refine⟨f,t,hp.fr,ht,by omega,by omega,?_,?_,?_⟩
  ·intro h12 hop
   rcases hp.kind with ⟨_,h1|⟨_,e,h2,h3,h4,_⟩,_⟩|h1
   ·rw[h1.1] at hop;cases hop
   ·omega
   ·exact absurd h1.1 h12
  ·intro hop
   rcases hp.kind with ⟨_,h1|⟨h2,_⟩,_⟩|h1
   ·have:=h1.2.1;omega
   ·rw[hop] at h2;cases h2
   ·rw[h1.2.1] at hop;cases hop
  ·intro h13
   have hgone:¬Alive l f (f+2)∨l.length≤f+1:=by
     have hal:=hp.al
     obtain⟨A,c,hF,hs⟩:=new_at hal
     rw[newP_of hF] at hq0
     simp only[List.mem_singleton] at hq0
     have i0:(pls (FT l (f+1)))[A.length]? = some (f:Int):=by rw[hF];simp[pls]
     have hop:q0.op=true:=by rw[hq0]
     have hfr:q0.fr=f:=by rw[hq0]
     have hse:=scan_evol l f (A.length+1) (fun k hk hm=>idx_const l f A.length i0 k hk hm) (l.length-(f+1)) (f+2) q0 hop hfr (by omega)
     obtain⟨s1,s2,s3,s4⟩:=scan_spec (FT l) f (A.length+1) (l.length-(f+1)) (f+2) {q0 with to:=l.length} hop
     rw[show finP l (evol l (l.length-(f+1)) (f+2) q0)=fin1 l (fixTo l.length (evol l (l.length-(f+1)) (f+2) q0)) from rfl,←hse] at h13
     generalize scanR (FT l) f (A.length+1) (l.length-(f+1)) (f+2) {q0 with to:=l.length}=r at *
     have hr:r.mode=13:=by
       unfold fin1 at h13
       by_cases h12:r.mode=12
       ·rw[if_pos h12] at h13
        have:r.mode=13:=h13
        omega
       ·rw[if_neg h12] at h13
        exact h13
     rcases s4 with ⟨_,h5|h5⟩|⟨e,h1,h2,h3,h4⟩
     ·exact .inl h5
     ·exact .inr (by omega)
     ·exfalso
      rw[hr] at h4
      have hc:=(cnt_88 _).1 h4.symm
      have h5:=idx_const l f A.length i0 e (by omega) h3
      rw[Nat.add_sub_cancel] at hc
      rw[List.getElem?_map] at h5
      cases hy:(FT l e)[A.length]? with
      | none=>rw[hy] at h5;cases h5
      | some y=>
        rw[hy] at h5
        simp at h5
        rw[List.getD_eq_getElem?_getD,hy] at hc
        exact esc_young (c:=y.1) h1 (by rw[←h5];exact List.mem_of_getElem? hy) hc
   rcases hp.kind with ⟨_,⟨h1,h2,h3⟩|⟨_,e,h2,h3,h4,_,h6⟩,_⟩|h1
   ·rcases hgone with hg|hg
    ·have:¬(f+2≤l.length):=fun hh=>hg (h3 (f+2) (by omega) hh)
     omega
    ·omega
   ·rcases hgone with hg|hg
    ·have:¬(f+2<e):=fun hh=>hg (h6 (f+2) (by omega) hh)
     omega
    ·omega
   ·rw[h1.1] at h13;cases h13
structure Pc where
  ex:Bool
  qu:Bool
  tx:List UInt8
def sub (l:List UInt8) (a b:Nat):List UInt8:=(l.take b).drop a
def findP (L:List Prt) (x:Nat):Option Prt:=L.find? (fun q=>q.fr==(x:Int))
def toN (q:Prt):Nat:=q.to.toNat
def loneB (q:Prt) (x:Nat):Bool:=decide (q.mode=12∧toN q=x+1)
def endQ (q:Prt):Nat:=if q.op=true then toN q else toN q-1
def escB (c:UInt8):Bool:=c.toNat==36||c.toNat==96||c.toNat==34||c.toNat==92
def escT (l:List UInt8) (q:Prt) (x:Nat):List UInt8:=
  if toN q<x+2 then [] else if escB (l.getD (x+1) 0)=true then [l.getD (x+1) 0] else if (l.getD (x+1) 0).toNat=10 then [] else sub l x (toN q)
def flP (b:List UInt8):List Pc:=if b=[] then [] else [⟨false,false,b⟩]
def flQ (b:List UInt8):List Pc:=if b=[] then [] else [⟨false,true,b⟩]
def dblF (l:List UInt8) (L:List Prt) (e:Nat):Nat→Nat→List UInt8→Bool→List Pc
  | 0,_,_,_=>[]
  | m+1,x,here,ex=>
    if x<e then
      match findP L x with
      | none=>dblF l L e m (x+1) (here++[l.getD x 0]) ex
      | some q=>
        if loneB q x=true then dblF l L e m (x+1) (here++[l.getD x 0]) ex
        else if q.mode=13 then dblF l L e m (toN q) (here++escT l q x) ex
        else flQ here++⟨true,true,sub l x (toN q)⟩::dblF l L e m (toN q) [] true
    else if here=[]∧ex=true then [] else [⟨false,true,here⟩]
def pcsF (l:List UInt8) (L:List Prt):Nat→Nat→List UInt8→List Pc
  | 0,_,buf=>flP buf
  | m+1,x,buf=>
    if x<l.length then
      match findP L x with
      | none=>pcsF l L m (x+1) (buf++[l.getD x 0])
      | some q=>
        if loneB q x=true∨q.mode=14 then pcsF l L m (toN q) (buf++sub l x (toN q))
        else if q.mode=13 then
          (if sub l (x+1) (toN q)=[]∨sub l (x+1) (toN q)=[10] then pcsF l L m (toN q) buf
           else flP buf++⟨false,true,sub l (x+1) (toN q)⟩::pcsF l L m (toN q) [])
        else if q.mode=4 then flP buf++⟨false,true,sub l (x+1) (endQ q)⟩::pcsF l L m (toN q) []
        else if q.mode=5 then flP buf++(dblF l L (endQ q) (l.length+1) (x+1) [] false++pcsF l L m (toN q) [])
        else flP buf++⟨true,false,sub l x (toN q)⟩::pcsF l L m (toN q) []
    else flP buf
def pcsL (l:List UInt8):List Pc:=pcsF l (partsL l) (l.length+1) 0 []
theorem sub_len {l:List UInt8} {a b:Nat} (h:b≤l.length):(sub l a b).length=b-a:=by unfold sub;simp;omega
structure PL (l:List UInt8) (L:List Prt):Prop where
  two:∀q∈L,∃f t:Nat,q.fr=f∧q.to=t∧f<t∧t≤l.length∧(q.mode≠12→q.op=false→f+2≤t)∧(q.op=true→t=l.length)∧(q.mode=13→t≤f+2)
theorem pl_parts (l:List UInt8):PL l (partsL l):=⟨fun q h=>part_two h⟩
theorem findP_some {l:List UInt8} {L:List Prt} (hL:PL l L) {x:Nat} {q:Prt} (h:findP L x=some q):q∈L∧q.fr=x∧q.to=toN q∧x<toN q∧toN q≤l.length∧(q.mode≠12→q.op=false→x+2≤toN q)∧(q.op=true→toN q=l.length)∧(q.mode=13→toN q≤x+2):=by
  have h1:=List.mem_of_find?_eq_some h
  have h2:q.fr=x:=by have:=List.find?_some h;simpa using this
  obtain⟨f,t,a,b,c,d,e,g,i⟩:=hL.two q h1
  have e1:toN q=t:=by unfold toN;omega
  have e2:f=x:=by omega
  subst e2
  rw[e1]
  exact⟨h1,h2,b,c,d,e,g,i⟩
def txL (L:List Pc):List UInt8:=L.flatMap (·.tx)
theorem txL_snoc (L:List Pc) (x:Pc):txL (L++[x])=txL L++x.tx:=by simp[txL]
theorem txL_len:∀(L:List Pc) (N:Nat),(∀x∈L,x.tx.length≤N)→(txL L).length≤L.length*N
  | [],_,_=>by simp[txL]
  | x::r,N,h=>by
    have h1:=txL_len r N (fun y hy=>h y (List.mem_cons_of_mem _ hy))
    have h2:=h x List.mem_cons_self
    have e:(txL (x::r)).length=x.tx.length+(txL r).length:=by simp[txL]
    rw[e,List.length_cons,Nat.succ_mul]
    omega
end Go.Proofs.YtlbfdbinaekjoaaGreatDoor
namespace Go.Proofs.YtlbfdbinaekjoaaGreatDoor
set_option linter.unusedVariables false
set_option linter.unusedSimpArgs false
set_option maxRecDepth 100000
def ne01 (b:List UInt8):Nat:=if b=[] then 0 else 1
theorem ne01_le (b:List UInt8):ne01 b≤1:=by unfold ne01;split<;>omega
theorem flP_len (b:List UInt8):(flP b).length=ne01 b:=by unfold flP ne01;split<;>rfl
theorem flQ_len (b:List UInt8):(flQ b).length=ne01 b:=by unfold flQ ne01;split<;>rfl
theorem dbl_len {l:List UInt8} {L:List Prt} (hL:PL l L) (e:Nat):∀(m x:Nat) (here:List UInt8) (ex:Bool),(dblF l L e m x here ex).length≤2*(e-x)+1+ne01 here
  | 0,_,_,_=>by simp[dblF]
  | m+1,x,here,ex=>by
    unfold dblF
    by_cases hx:x<e
    ·rw[if_pos hx]
     cases hf:findP L x with
     | none=>
       have h1:=dbl_len hL e m (x+1) (here++[l.getD x 0]) ex
       have h2:=ne01_le (here++[l.getD x 0])
       simp only
       omega
     | some q=>
       obtain⟨_,hfr,hto,hlt,hle,_⟩:=findP_some hL hf
       simp only
       split
       ·have h1:=dbl_len hL e m (x+1) (here++[l.getD x 0]) ex
        have h2:=ne01_le (here++[l.getD x 0])
        omega
       ·split
        ·have h1:=dbl_len hL e m (toN q) (here++escT l q x) ex
         have h2:=ne01_le (here++escT l q x)
         omega
        ·have h1:=dbl_len hL e m (toN q) [] true
         rw[List.length_append,List.length_cons,flQ_len]
         simp only[ne01,if_true] at h1 ⊢
         omega
    ·rw[if_neg hx]
     split
     ·simp
     ·simp only[List.length_cons,List.length_nil];omega
theorem pcsF_len {l:List UInt8} {L:List Prt} (hL:PL l L):∀(m x:Nat) (buf:List UInt8),(pcsF l L m x buf).length≤2*(l.length-x)+ne01 buf
  | 0,_,buf=>by simp[pcsF,flP_len]
  | m+1,x,buf=>by
    unfold pcsF
    by_cases hx:x<l.length
    ·rw[if_pos hx]
     have hn:∀y,(pcsF l L m y []).length≤2*(l.length-y):=fun y=>by have:=pcsF_len hL m y [];simpa [ne01] using this
     cases hf:findP L x with
     | none=>
       have h1:=pcsF_len hL m (x+1) (buf++[l.getD x 0])
       have h2:=ne01_le (buf++[l.getD x 0])
       simp only
       omega
     | some q=>
       obtain⟨_,hfr,hto,hlt,hle,h2,_⟩:=findP_some hL hf
       have h3:=hn (toN q)
       simp only
       split
       ·have h1:=pcsF_len hL m (toN q) (buf++sub l x (toN q))
        have h2:=ne01_le (buf++sub l x (toN q))
        omega
       ·split
        ·split
         ·have h1:=pcsF_len hL m (toN q) buf
          omega
         ·rw[List.length_append,List.length_cons,flP_len];omega
        ·split
         ·rw[List.length_append,List.length_cons,flP_len];omega
         ·split
          ·rename_i h5
           have h4:=dbl_len hL (endQ q) (l.length+1) (x+1) [] false
           have h6:endQ q≤toN q:=by unfold endQ;split<;>omega
           simp only[ne01,if_true] at h4
           rw[List.length_append,List.length_append,flP_len]
           omega
          ·rw[List.length_append,List.length_cons,flP_len];omega
    ·rw[if_neg hx,flP_len];omega
theorem pcsL_len (l:List UInt8):(pcsL l).length≤2*l.length:=by
  have:=pcsF_len (pl_parts l) (l.length+1) 0 []
  simpa [ne01,pcsL] using this
theorem sub_le (l:List UInt8) (a b:Nat):(sub l a b).length≤b-a:=by unfold sub;simp;omega
theorem escT_le {l:List UInt8} {q:Prt} {x:Nat} (h:x<toN q) (h2:toN q≤x+2∨True):(escT l q x).length≤toN q-x:=by
  unfold escT
  split
  ·simp
  ·split
   ·simp;omega
   ·split
    ·simp
    ·exact sub_le _ _ _
theorem flP_tx {b:List UInt8} {N:Nat} (h:b.length≤N):∀p∈flP b,p.tx.length≤N:=by
  intro p hp
  unfold flP at hp
  split at hp
  ·cases hp
  ·simp at hp;subst hp;exact h
theorem flQ_tx {b:List UInt8} {N:Nat} (h:b.length≤N):∀p∈flQ b,p.tx.length≤N:=by
  intro p hp
  unfold flQ at hp
  split at hp
  ·cases hp
  ·simp at hp;subst hp;exact h
theorem dbl_tx {l:List UInt8} {L:List Prt} (hL:PL l L) (e:Nat) (he:e≤l.length):∀(m x:Nat) (here:List UInt8) (ex:Bool),here.length≤x→x≤l.length→∀p∈dblF l L e m x here ex,p.tx.length≤l.length
  | 0,_,_,_,_,_=>by intro p hp;cases hp
  | m+1,x,here,ex,hh,hxl=>by
    unfold dblF
    by_cases hx:x<e
    ·rw[if_pos hx]
     cases hf:findP L x with
     | none=>exact dbl_tx hL e he m (x+1) _ ex (by simp;omega) (by omega)
     | some q=>
       obtain⟨_,hfr,hto,hlt,hle,_⟩:=findP_some hL hf
       simp only
       split
       ·exact dbl_tx hL e he m (x+1) _ ex (by simp;omega) (by omega)
       ·split
        ·exact dbl_tx hL e he m (toN q) _ ex (by have:=escT_le (l:=l) hlt (.inr trivial);simp;omega) hle
        ·intro p hp
         rcases List.mem_append.1 hp with hp|hp
         ·exact flQ_tx (by omega) p hp
         ·rcases List.mem_cons.1 hp with rfl|hp
          ·have:=sub_le l x (toN q);simp only;omega
          ·exact dbl_tx hL e he m (toN q) [] true (by simp) hle p hp
    ·rw[if_neg hx]
     split
     ·intro p hp;cases hp
     ·intro p hp
      simp at hp
      subst hp
      simp only
      omega
theorem pcsF_tx {l:List UInt8} {L:List Prt} (hL:PL l L):∀(m x:Nat) (buf:List UInt8),buf.length≤x→x≤l.length→∀p∈pcsF l L m x buf,p.tx.length≤l.length
  | 0,_,buf,h,hx=>flP_tx (by omega)
  | m+1,x,buf,h,hxl=>by
    unfold pcsF
    by_cases hx:x<l.length
    ·rw[if_pos hx]
     cases hf:findP L x with
     | none=>exact pcsF_tx hL m (x+1) _ (by simp;omega) (by omega)
     | some q=>
       obtain⟨_,hfr,hto,hlt,hle,h2,_⟩:=findP_some hL hf
       have hn:=pcsF_tx hL m (toN q) [] (by simp) hle
       have hone:∀(y:Pc),y.tx.length≤l.length→∀p∈flP buf++y::pcsF l L m (toN q) [],p.tx.length≤l.length:=by
         intro y hy p hp
         rcases List.mem_append.1 hp with hp|hp
         ·exact flP_tx (by omega) p hp
         ·rcases List.mem_cons.1 hp with rfl|hp
          ·exact hy
          ·exact hn p hp
       have hend:endQ q≤toN q:=by unfold endQ;split<;>omega
       simp only
       split
       ·exact pcsF_tx hL m (toN q) _ (by have:=sub_le l x (toN q);simp;omega) hle
       ·split
        ·split
         ·exact pcsF_tx hL m (toN q) buf (by omega) hle
         ·exact hone _ (by have:=sub_le l (x+1) (toN q);simp only;omega)
        ·split
         ·exact hone _ (by have:=sub_le l (x+1) (endQ q);simp only;omega)
         ·split
          ·intro p hp
           rcases List.mem_append.1 hp with hp|hp
           ·exact flP_tx (by omega) p hp
           ·rcases List.mem_append.1 hp with hp|hp
            ·exact dbl_tx hL (endQ q) (by omega) _ (x+1) [] false (by simp) (by omega) p hp
            ·exact hn p hp
          ·exact hone _ (by have:=sub_le l x (toN q);simp only;omega)
    ·rw[if_neg hx]
     exact flP_tx (by omega)
theorem pcsL_tx (l:List UInt8):∀p∈pcsL l,p.tx.length≤l.length:=pcsF_tx (pl_parts l) (l.length+1) 0 [] (by simp) (by omega)
end Go.Proofs.YtlbfdbinaekjoaaGreatDoor
namespace Go.Proofs.YtlbfdbinaekjoaaGreatDoor
set_option linter.unusedVariables false
set_option linter.unusedSimpArgs false
set_option maxRecDepth 100000
end Go.Proofs.YtlbfdbinaekjoaaGreatDoor
namespace Go.Proofs.YtlbfdbinaekjoaaGreatDoor
set_option linter.unusedVariables false
set_option linter.unusedSimpArgs false
set_option maxRecDepth 100000
def opTx:Nat→List UInt8
  | 1=>[38,38]|2=>[124,124]|3=>[59,59]|4=>[60,60]|5=>[60,60,45]|6=>[62,62]|7=>[60,38]|8=>[62,38]|9=>[60,62]
  | 10=>[62,124]|11=>[60]|12=>[62]|13=>[38]|14=>[59]|15=>[124]|16=>[40]|17=>[41]|_=>[]
def opFrom (w:List UInt8):Nat→Nat→Nat
  | 0,_=>0
  | m+1,k=>if opTx k=w then k else opFrom w m (k+1)
def opOf (w:List UInt8):Nat:=if w=[] then 0 else opFrom w 17 1
def opN (d:List UInt8):Nat→Nat×Nat
  | 0=>(0,0)
  | n+1=>if opOf (d.take (n+1))≠0 then (opOf (d.take (n+1)),n+1) else opN d n
def opAt (l:List UInt8) (x:Nat):Nat×Nat:=if clsOf (l.getD x 0)≠3 then (0,0) else opN (l.drop x) (min 3 (l.length-x))
def opBest (d:List UInt8):Nat→Nat
  | 0=>0
  | k+1=>if (opTx (k+1)).isPrefixOf d=true∧(opTx (opBest d k)).length<(opTx (k+1)).length then k+1 else opBest d k
def alpha:List UInt8:=[38,124,59,60,62,45,40,41]
def nrm (c:UInt8):UInt8:=if alpha.contains c then c else 0
theorem opTx_alpha:∀k,∀c∈opTx k,c∈alpha:=by
  intro k
  by_cases h:k<18
  ·have:((List.range 18).all fun k=>(opTx k).all fun c=>alpha.contains c)=true:=by decide +kernel
   have h2:=List.all_eq_true.1 this k (List.mem_range.2 h)
   intro c hc
   have:=List.all_eq_true.1 h2 c hc
   simpa using this
  ·intro c hc
   have:opTx k=[]:=by unfold opTx;split<;>first|omega|rfl
   rw[this] at hc
   cases hc
theorem nrm_eq {c d:UInt8} (h:c∈alpha):c=nrm d↔c=d:=by
  unfold nrm
  constructor
  ·intro e
   split at e
   ·exact e
   ·subst e;exact absurd h (by decide)
  ·intro e
   subst e
   rw[if_pos (by simpa using h)]
theorem map_nrm:∀(t w:List UInt8),(∀c∈t,c∈alpha)→(t=w.map nrm↔t=w)
  | [],[],_=>by simp
  | [],_::_,_=>by simp
  | _::_,[],_=>by simp
  | a::t,b::w,h=>by
    have h1:=map_nrm t w (fun c hc=>h c (List.mem_cons_of_mem _ hc))
    have h2:=nrm_eq (d:=b) (h a List.mem_cons_self)
    simp only[List.map_cons,List.cons.injEq,h1,h2]
theorem pre_nrm:∀(t w:List UInt8),(∀c∈t,c∈alpha)→t.isPrefixOf (w.map nrm)=t.isPrefixOf w
  | [],_,_=>by simp
  | _::_,[],_=>rfl
  | a::t,b::w,h=>by
    have h1:=pre_nrm t w (fun c hc=>h c (List.mem_cons_of_mem _ hc))
    have h2:=nrm_eq (d:=b) (h a List.mem_cons_self)
    simp only[List.map_cons,List.isPrefixOf,h1]
    congr 1
    by_cases e:a=b
    ·subst e;simp[h2]
    ·have:¬a=nrm b:=fun h=>e (h2.1 h)
     rw[beq_eq_false_iff_ne.2 e,beq_eq_false_iff_ne.2 this]
theorem opFrom_nrm (w:List UInt8):∀m k,opFrom (w.map nrm) m k=opFrom w m k
  | 0,_=>rfl
  | m+1,k=>by
    unfold opFrom
    rw[opFrom_nrm w m]
    by_cases e:opTx k=w
    ·rw[if_pos e,if_pos ((map_nrm _ _ (opTx_alpha k)).2 e)]
    ·rw[if_neg e,if_neg (fun h=>e ((map_nrm _ _ (opTx_alpha k)).1 h))]
theorem opOf_nrm (w:List UInt8):opOf (w.map nrm)=opOf w:=by
  unfold opOf
  rw[opFrom_nrm]
  by_cases e:w=[]
  ·subst e;rfl
  ·rw[if_neg e,if_neg (by simpa using e)]
theorem opN_nrm (d:List UInt8):∀n,opN (d.map nrm) n=opN d n
  | 0=>rfl
  | n+1=>by
    unfold opN
    rw[←List.map_take,opOf_nrm,opN_nrm d n]
theorem opBest_nrm (d:List UInt8):∀k,opBest (d.map nrm) k=opBest d k
  | 0=>rfl
  | k+1=>by
    unfold opBest
    rw[opBest_nrm d k,pre_nrm _ _ (opTx_alpha _)]
theorem opTx_len (k:Nat):(opTx k).length≤3:=by
  unfold opTx
  split<;>simp
theorem pre_take (t w:List UInt8) (n:Nat) (h:t.length≤n):t.isPrefixOf (w.take n)=t.isPrefixOf w:=by
  induction t generalizing w n with
  | nil=>simp
  | cons a t ih=>
    cases w with
    | nil=>simp
    | cons b w=>
      cases n with
      | zero=>simp at h
      | succ n=>simp only[List.take_succ_cons,List.isPrefixOf];rw[ih w n (by simpa using h)]
theorem opBest_take (d:List UInt8):∀k,opBest (d.take 3) k=opBest d k
  | 0=>rfl
  | k+1=>by
    unfold opBest
    rw[opBest_take d k,pre_take _ _ _ (opTx_len _)]
theorem opN_take (d:List UInt8) (m:Nat):∀n,n≤m→opN (d.take m) n=opN d n
  | 0,_=>rfl
  | n+1,h=>by
    unfold opN
    rw[opN_take d m n (by omega),List.take_take,Nat.min_eq_left h]
def opGood (d:List UInt8):Bool:=(opBest d 17==(opN d (min 3 d.length)).1)&&((opTx (opN d (min 3 d.length)).1).length==(opN d (min 3 d.length)).2)&&(clsOf (d.getD 0 0)==3||opBest d 17==0)&&(clsOf (d.getD 0 0)!=3||(opN d (min 3 d.length)).2 != 0)
def alpha0:List UInt8:=0::alpha
theorem opGood_one:(alpha0.all fun a=>opGood [a])=true:=by decide +kernel
theorem opGood_two:(alpha0.all fun a=>alpha0.all fun b=>opGood [a,b])=true:=by decide +kernel
theorem opGood_three:(alpha0.all fun a=>alpha0.all fun b=>alpha0.all fun c=>opGood [a,b,c])=true:=by decide +kernel
theorem nrm_mem (c:UInt8):nrm c∈alpha0:=by
  unfold nrm
  split
  ·rename_i h;exact List.mem_cons_of_mem _ (by simpa using h)
  ·exact List.mem_cons_self
theorem cls_nrm (c:UInt8):(clsOf (nrm c)==3)=(clsOf c==3):=by
  have:=byte_all (fun c=>(clsOf (nrm c)==3)==(clsOf c==3)) (by decide +kernel) c
  simpa using this
theorem opGood_nrm (d:List UInt8) (hd:d≠[]) (h:opGood (d.map nrm)=true):opGood d=true:=by
  unfold opGood at h ⊢
  have e:(d.map nrm).getD 0 0=nrm (d.getD 0 0):=by
    cases d with
    | nil=>exact absurd rfl hd
    | cons a r=>rfl
  rw[opBest_nrm,List.length_map,opN_nrm,e,cls_nrm] at h
  have e2:(clsOf (nrm (d.getD 0 0))!=3)=(clsOf (d.getD 0 0)!=3):=by unfold bne;rw[cls_nrm]
  rw[e2] at h
  exact h
theorem opGood_all (d:List UInt8) (hd:d≠[]):opGood d=true:=by
  have hs:opGood (d.take 3)=true:=by
    refine opGood_nrm _ (by cases d<;>simp_all) ?_
    match d,hd with
    | [a],_=>exact List.all_eq_true.1 opGood_one _ (nrm_mem a)
    | [a,b],_=>exact List.all_eq_true.1 (List.all_eq_true.1 opGood_two _ (nrm_mem a)) _ (nrm_mem b)
    | a::b::c::r,_=>exact List.all_eq_true.1 (List.all_eq_true.1 (List.all_eq_true.1 opGood_three _ (nrm_mem a)) _ (nrm_mem b)) _ (nrm_mem c)
  unfold opGood at hs ⊢
  have e:(d.take 3).getD 0 0=d.getD 0 0:=by cases d<;>rfl
  have e2:min 3 (d.take 3).length=min 3 d.length:=by simp
  rw[opBest_take,e2,opN_take _ _ _ (by omega),e] at hs
  exact hs
theorem op_same (l:List UInt8) (x:Nat) (hx:x<l.length):opBest (l.drop x) 17=(opAt l x).1∧(opTx (opAt l x).1).length=(opAt l x).2∧(0<(opAt l x).2↔clsOf (l.getD x 0)=3):=by
  have hd:l.drop x≠[]:=by intro h;have:=congrArg List.length h;simp at this;omega
  have h:=opGood_all _ hd
  have e:(l.drop x).getD 0 0=l.getD x 0:=by simp[List.getD_eq_getElem?_getD]
  unfold opGood at h
  rw[e,List.length_drop] at h
  simp only[Bool.and_eq_true,beq_iff_eq,Bool.or_eq_true,bne_iff_ne] at h
  obtain⟨⟨⟨h1,h2⟩,h3⟩,h4⟩:=h
  unfold opAt
  by_cases hc:clsOf (l.getD x 0)=3
  ·rw[if_neg (fun h=>h hc)]
   refine⟨h1,h2,fun _=>hc,fun _=>?_⟩
   rcases h4 with h4|h4
   ·exact absurd hc h4
   ·omega
  ·rw[if_pos hc]
   refine⟨?_,rfl,fun h=>by simp at h,fun h=>absurd h hc⟩
   rcases h3 with h3|h3
   ·exact absurd h3 hc
   ·exact h3
def lineN (l:List UInt8) (x:Nat):Nat:=x+((l.drop x).takeWhile fun c=>c.toNat != 10).length
def tabT (t:Bool) (b:List UInt8):List UInt8:=if t=true then b.dropWhile (fun c=>c.toNat==9) else b
def lineE (l:List UInt8) (x:Nat):Nat:=if lineN l x<l.length then lineN l x+1 else lineN l x
def hereF (l w:List UInt8) (t:Bool):Nat→Nat→Nat×Bool
  | 0,x=>(x,false)
  | m+1,x=>if x<l.length then (if tabT t (sub l x (lineN l x))=w then (lineE l x,true) else hereF l w t m (lineE l x)) else (x,false)
def hereL (l:List UInt8) (x:Nat) (w:List UInt8) (t:Bool):Nat×Bool:=hereF l w t (l.length-x) x
theorem lineN_le (l:List UInt8) (x:Nat) (h:x≤l.length):x≤lineN l x∧lineN l x≤l.length:=by
  unfold lineN
  have:=(List.takeWhile_prefix (l:=l.drop x) (fun c=>c.toNat != 10)).length_le
  simp at this
  omega
theorem lineE_le (l:List UInt8) (x:Nat) (h:x<l.length):x<lineE l x∧lineE l x≤l.length:=by
  have h1:=lineN_le l x (by omega)
  unfold lineE
  split
  ·omega
  ·constructor
   ·have:lineN l x=l.length:=by omega
    omega
   ·omega
theorem hereF_fuel (l w:List UInt8) (t:Bool):∀(m m' x:Nat),l.length-x≤m→l.length-x≤m'→hereF l w t m x=hereF l w t m' x
  | 0,m',x,h,h'=>by
    cases m' with
    | zero=>rfl
    | succ m'=>unfold hereF;rw[if_neg (by omega)]
  | m+1,0,x,h,h'=>by unfold hereF;rw[if_neg (by omega)]
  | m+1,m'+1,x,h,h'=>by
    unfold hereF
    by_cases hx:x<l.length
    ·have:=lineE_le l x hx
     rw[if_pos hx,if_pos hx,hereF_fuel l w t m m' (lineE l x) (by omega) (by omega)]
    ·rw[if_neg hx,if_neg hx]
theorem hereL_eq (l:List UInt8) (x:Nat) (w:List UInt8) (t:Bool):hereL l x w t=if x<l.length then (if tabT t (sub l x (lineN l x))=w then (lineE l x,true) else hereL l (lineE l x) w t) else (x,false):=by
  unfold hereL
  by_cases hx:x<l.length
  ·have:=lineE_le l x hx
   obtain⟨m,hm⟩:∃m,l.length-x=m+1:=⟨l.length-x-1,by omega⟩
   rw[hm]
   show (if x<l.length then _ else _)=_
   rw[if_pos hx,if_pos hx,hereF_fuel l w t m (l.length-lineE l x) (lineE l x) (by omega) (Nat.le_refl _)]
  ·rw[if_neg hx,show l.length-x=0 by omega];rfl
theorem hereL_le (l w:List UInt8) (t:Bool):∀(m x:Nat),l.length-x=m→x<l.length→x<(hereL l x w t).1∧(hereL l x w t).1≤l.length∧((hereL l x w t).2=false→(hereL l x w t).1=l.length):=by
  intro m
  induction m using Nat.strongRecOn with
  | _ m ih=>
    intro x hm hx
    rw[hereL_eq,if_pos hx]
    have:=lineE_le l x hx
    by_cases hw:tabT t (sub l x (lineN l x))=w
    ·rw[if_pos hw];exact⟨this.1,this.2,fun h=>by cases h⟩
    ·rw[if_neg hw]
     by_cases hy:lineE l x<l.length
     ·have h2:=ih (l.length-lineE l x) (by omega) (lineE l x) rfl hy
      exact⟨by omega,h2.2.1,h2.2.2⟩
     ·rw[hereL_eq,if_neg hy]
      exact⟨this.1,this.2,fun _=>by show lineE l x=_;omega⟩
def blankB (c:UInt8):Bool:=c.toNat==32||c.toNat==9
def contB (l:List UInt8) (x:Nat):Bool:=x+1<l.length&&(l.getD x 0).toNat==92&&(l.getD (x+1) 0).toNat==10
def blankF (l:List UInt8):Nat→Nat→Nat
  | 0,x=>x
  | m+1,x=>if x<l.length then (if blankB (l.getD x 0)=true then blankF l m (x+1) else if contB l x=true then blankF l m (x+2) else x) else x
def blankL (l:List UInt8) (x:Nat):Nat:=blankF l (l.length-x) x
theorem blankF_fuel (l:List UInt8):∀(m m' x:Nat),l.length-x≤m→l.length-x≤m'→blankF l m x=blankF l m' x
  | 0,m',x,h,h'=>by
    cases m' with
    | zero=>rfl
    | succ m'=>unfold blankF;rw[if_neg (by omega)]
  | m+1,0,x,h,h'=>by unfold blankF;rw[if_neg (by omega)]
  | m+1,m'+1,x,h,h'=>by
    unfold blankF
    rw[blankF_fuel l m m' (x+1) (by omega) (by omega),blankF_fuel l m m' (x+2) (by omega) (by omega)]
theorem blankL_eq (l:List UInt8) (x:Nat):blankL l x=if x<l.length then (if blankB (l.getD x 0)=true then blankL l (x+1) else if contB l x=true then blankL l (x+2) else x) else x:=by
  unfold blankL
  by_cases hx:x<l.length
  ·obtain⟨m,hm⟩:∃m,l.length-x=m+1:=⟨l.length-x-1,by omega⟩
   rw[hm]
   show (if x<l.length then _ else _)=_
   rw[if_pos hx,if_pos hx,blankF_fuel l m (l.length-(x+1)) (x+1) (by omega) (Nat.le_refl _),blankF_fuel l m (l.length-(x+2)) (x+2) (by omega) (Nat.le_refl _)]
  ·rw[if_neg hx,show l.length-x=0 by omega];rfl
theorem blankL_le (l:List UInt8):∀(m x:Nat),l.length-x=m→x≤l.length→x≤blankL l x∧blankL l x≤l.length:=by
  intro m
  induction m using Nat.strongRecOn with
  | _ m ih=>
    intro x hm hx
    rw[blankL_eq]
    by_cases hl:x<l.length
    ·rw[if_pos hl]
     split
     ·have:=ih (l.length-(x+1)) (by omega) (x+1) rfl (by omega);omega
     ·split
      ·rename_i hc
       have hc2:x+1<l.length:=by unfold contB at hc;simp at hc;exact hc.1.1
       have:=ih (l.length-(x+2)) (by omega) (x+2) rfl (by omega);omega
      ·omega
    ·rw[if_neg hl];omega
theorem blankL_gt (l:List UInt8) (x:Nat) (hx:x<l.length):x<blankL l x↔blankB (l.getD x 0)=true∨contB l x=true:=by
  rw[blankL_eq,if_pos hx]
  split
  ·rename_i h
   have:=blankL_le l _ (x+1) rfl (by omega)
   exact⟨fun _=>.inl h,fun _=>by omega⟩
  ·rename_i h
   split
   ·rename_i hc
    have hc2:x+1<l.length:=by unfold contB at hc;simp at hc;exact hc.1.1
    have:=blankL_le l _ (x+2) rfl (by omega)
    exact⟨fun _=>.inr hc,fun _=>by omega⟩
   ·rename_i hc
    exact⟨fun h2=>by omega,fun h2=>by rcases h2 with h2|h2;exact absurd h2 h;exact absurd h2 hc⟩
abbrev digN (l:List UInt8) (x:Nat):Nat:=spanL digB l x
def numB (l:List UInt8) (x:Nat):Bool:=decide (0<digN l x)&&decide (x+digN l x<l.length)&&((l.getD (x+digN l x) 0).toNat==60||(l.getD (x+digN l x) 0).toNat==62)
structure Tk where
  kd:Nat
  fr:Nat
  to:Nat
  op:Bool
abbrev Dl:=List UInt8×Bool
structure Lx where
  aw:Int
  pd:List Dl
  bd:Bool
def shutB (w:List UInt8):Bool:=decide (clo (rAt w w.length).1=[])
def plainL (l:List UInt8) (x:Nat):Tk:=
  if blankB (l.getD x 0)=true∨contB l x=true then ⟨1,x,blankL l x,false⟩
  else if (l.getD x 0).toNat=10 then ⟨2,x,x+1,false⟩
  else if (l.getD x 0).toNat=35 then ⟨3,x,lineN l x,false⟩
  else if 0<(opAt l x).2 then ⟨4,x,x+(opAt l x).2,false⟩
  else if numB l x=true then ⟨5,x,x+digN l x,false⟩
  else ⟨6,x,x+endL l x,!shutB (sub l x (x+endL l x))⟩
def behindL (t:List UInt8) (k:Nat) (X:Lx):Lx:=
  if k=1 then ⟨X.aw,X.pd,false⟩
  else if k=2 then ⟨0,X.pd,!X.pd.isEmpty⟩
  else if k=4 then ⟨if opOf t=4∨opOf t=5 then (opOf t:Int) else 0,X.pd,false⟩
  else if k=6 then ⟨0,if X.aw≠0 then X.pd++[(txL (pcsL t),decide (X.aw=5))] else X.pd,false⟩
  else ⟨0,X.pd,false⟩
def docL (l:List UInt8) (x:Nat) (X:Lx) (d:Dl) (r:List Dl):Tk×Lx:=
  if (hereL l x d.1 d.2).2=true then (⟨7,x,(hereL l x d.1 d.2).1,false⟩,⟨X.aw,r,!r.isEmpty⟩) else (⟨7,x,(hereL l x d.1 d.2).1,true⟩,X)
def stepL (l:List UInt8) (x:Nat) (X:Lx):Tk×Lx:=
  match X.bd,X.pd with
  | true,d::r=>docL l x X d r
  | _,_=>(plainL l x,behindL (sub l x (plainL l x).to) (plainL l x).kd X)
def lexF (l:List UInt8):Nat→Nat→Lx→List Tk×Lx
  | 0,_,X=>([],X)
  | m+1,x,X=>if x<l.length then ((stepL l x X).1::(lexF l m (stepL l x X).1.to (stepL l x X).2).1,(lexF l m (stepL l x X).1.to (stepL l x X).2).2) else ([],X)
def lx0:Lx:=⟨0,[],false⟩
def lexL (l:List UInt8):List Tk×Lx:=lexF l (l.length+1) 0 lx0
end Go.Proofs.YtlbfdbinaekjoaaGreatDoor
namespace Go.Proofs.YtlbfdbinaekjoaaGreatDoor
set_option linter.unusedVariables false
set_option linter.unusedSimpArgs false
set_option maxRecDepth 100000
theorem sub_take' (l:List UInt8) (x n:Nat) (h:x≤l.length):sub l x (x+n)=(l.drop x).take n:=by unfold sub;rw[List.drop_take];congr 1;omega
theorem getD_drop (l:List UInt8) (x i:Nat):(l.drop x).getD i 0=l.getD (x+i) 0:=by simp[List.getD_eq_getElem?_getD]
theorem tw_stop (p:UInt8→Bool):∀(m:List UInt8),(m.takeWhile p).length<m.length→p (m.getD (m.takeWhile p).length 0)=false
  | [],h=>by simp at h
  | b::m,h=>by
    by_cases hb:p b=true
    ·rw[List.takeWhile_cons,if_pos hb] at h ⊢
     exact tw_stop p m (by simpa using h)
    ·rw[List.takeWhile_cons,if_neg hb]
     simpa using hb
theorem tw_uniq (p:UInt8→Bool):∀(m:List UInt8) (k:Nat),(∀i,i<k→p (m.getD i 0)=true)→k<m.length→p (m.getD k 0)=false→(m.takeWhile p).length=k
  | [],k,_,h,_=>by simp at h
  | b::m,0,_,_,h=>by
    have hb:p b=false:=h
    rw[List.takeWhile_cons,if_neg (by rw[hb];decide)]
    rfl
  | b::m,k+1,h1,h2,h3=>by
    have hb:p b=true:=h1 0 (by omega)
    rw[List.takeWhile_cons,if_pos hb,List.length_cons,tw_uniq p m k (fun i hi=>h1 (i+1) (by omega)) (by simpa using h2) h3]
theorem span_all (p:UInt8→Bool) (l:List UInt8) (x i:Nat) (h:i<spanL p l x):p (l.getD (x+i) 0)=true:=by
  rw[←getD_drop];exact tw_byte p (l.drop x) i h
theorem span_stop (p:UInt8→Bool) (l:List UInt8) (x:Nat) (h:x+spanL p l x<l.length):p (l.getD (x+spanL p l x) 0)=false:=by
  rw[←getD_drop]
  exact tw_stop p (l.drop x) (by have:spanL p l x=((l.drop x).takeWhile p).length:=rfl;rw[List.length_drop];omega)
theorem span_uniq (p:UInt8→Bool) (l:List UInt8) (x k:Nat) (h1:∀i,i<k→p (l.getD (x+i) 0)=true) (h2:x+k<l.length) (h3:p (l.getD (x+k) 0)=false):spanL p l x=k:=
  tw_uniq p (l.drop x) k (fun i hi=>by rw[getD_drop];exact h1 i hi) (by rw[List.length_drop];omega) (by rw[getD_drop];exact h3)
theorem lineN_span (l:List UInt8) (x:Nat):lineN l x=x+spanL (fun c=>c.toNat != 10) l x:=rfl
structure Ag (n:Nat) (l l':List UInt8):Prop where
  h:n≤l.length
  h':n≤l'.length
  e:∀i,i<n→l.getD i 0=l'.getD i 0
theorem Ag.symm {n:Nat} {l l':List UInt8} (a:Ag n l l'):Ag n l' l:=⟨a.h',a.h,fun i hi=>(a.e i hi).symm⟩
theorem Ag.app (a b c:List UInt8):Ag a.length (a++b) (a++c):=⟨by simp,by simp,fun i hi=>by rw[List.getD_eq_getElem?_getD,List.getD_eq_getElem?_getD,List.getElem?_append_left hi,List.getElem?_append_left hi]⟩
theorem Ag.take {n:Nat} {l l':List UInt8} (a:Ag n l l') {y:Nat} (hy:y≤n):l.take y=l'.take y:=by
  refine List.ext_getElem? fun i=>?_
  rw[List.getElem?_take,List.getElem?_take]
  split
  ·rename_i hi
   have:=a.e i (by omega)
   rw[List.getD_eq_getElem?_getD,List.getD_eq_getElem?_getD,List.getElem?_eq_getElem (by have:=a.h;omega),List.getElem?_eq_getElem (by have:=a.h';omega)] at this
   rw[List.getElem?_eq_getElem (by have:=a.h;omega),List.getElem?_eq_getElem (by have:=a.h';omega)]
   exact congrArg some this
  ·rfl
theorem Ag.sub {n:Nat} {l l':List UInt8} (a:Ag n l l') {x y:Nat} (hy:y≤n):sub l x y=sub l' x y:=by unfold Go.Proofs.YtlbfdbinaekjoaaGreatDoor.sub;rw[a.take hy]
theorem Ag.span {n:Nat} {l l':List UInt8} (a:Ag n l l') {p:UInt8→Bool} {x:Nat} (h:x+spanL p l x<n):spanL p l' x=spanL p l x:=by
  have h1:=a.h
  have h2:=a.h'
  refine span_uniq p l' x _ (fun i hi=>?_) (by omega) ?_
  ·rw[←a.e _ (by omega)];exact span_all p l x i hi
  ·rw[←a.e _ (by omega)];exact span_stop p l x (by omega)
theorem Ag.line {n:Nat} {l l':List UInt8} (a:Ag n l l') {x:Nat} (h:lineN l x<n):lineN l' x=lineN l x:=by
  rw[lineN_span,lineN_span] at *
  rw[a.span h]
theorem Ag.here {n:Nat} {l l':List UInt8} (a:Ag n l l') (w:List UInt8) (t:Bool):∀(m x:Nat),l.length-x=m→x<l.length→(hereL l x w t).1<n→hereL l' x w t=hereL l x w t:=by
  intro m
  induction m using Nat.strongRecOn with
  | _ m ih=>
    intro x hm hx h
    have h1:=a.h
    have h2:=a.h'
    have hle:=hereL_le l w t _ x rfl hx
    have hle2:=lineE_le l x hx
    have hln:=lineN_le l x (by omega)
    have hnext:lineE l x≤(hereL l x w t).1:=by
      rw[hereL_eq,if_pos hx]
      split
      ·exact Nat.le_refl _
      ·by_cases hy:lineE l x<l.length
       ·exact Nat.le_of_lt (hereL_le l w t _ (lineE l x) rfl hy).1
       ·rw[hereL_eq,if_neg hy];exact Nat.le_refl _
    have hlt:lineN l x<l.length:=by
      refine Nat.lt_of_not_le fun hh=>?_
      have:lineE l x=lineN l x:=by unfold lineE;rw[if_neg (by omega)]
      omega
    have hE:lineE l x=lineN l x+1:=by unfold lineE;rw[if_pos hlt]
    have hL:=a.line (x:=x) (by omega)
    have hE':lineE l' x=lineE l x:=by unfold lineE;rw[hL,if_pos hlt,if_pos (by omega)]
    have h0:=h
    have hxl:x<l'.length:=by omega
    have hsub:=a.sub (x:=x) (y:=lineN l x) (by omega)
    rw[hereL_eq] at h
    rw[hereL_eq l' x,hereL_eq l x,if_pos hx,if_pos hxl,hL,hE',←hsub]
    rw[if_pos hx] at h
    split
    ·rfl
    ·rename_i hw
     rw[if_neg hw] at h
     exact ih (l.length-lineE l x) (by omega) (lineE l x) rfl (by omega) h
theorem Ag.cont {n:Nat} {l l':List UInt8} (a:Ag n l l') {x:Nat} (h:x+1<n):contB l' x=contB l x:=by
  have h1:=a.h
  have h2:=a.h'
  unfold contB
  rw[a.e x (by omega),a.e (x+1) h,decide_eq_true (show x+1<l.length by omega),decide_eq_true (show x+1<l'.length by omega)]
theorem Ag.blank {n:Nat} {l l':List UInt8} (a:Ag n l l'):∀(m x:Nat),l.length-x=m→x≤l.length→blankL l x+2≤n→blankL l' x=blankL l x:=by
  intro m
  induction m using Nat.strongRecOn with
  | _ m ih=>
    intro x hm hx h
    have h1:=a.h
    have h2:=a.h'
    have hle:=blankL_le l _ x rfl hx
    have hx1:x<l.length:=by omega
    have hx2:x<l'.length:=by omega
    have ee:=a.e x (by omega)
    have ec:=a.cont (x:=x) (by omega)
    have h0:x+2≤l.length:=by omega
    rw[blankL_eq l' x,blankL_eq l x,if_pos hx1,if_pos hx2,←ee,ec]
    rw[blankL_eq l x,if_pos hx1] at h
    split
    ·rename_i hb
     rw[if_pos hb] at h
     exact ih (l.length-(x+1)) (by omega) (x+1) rfl (by omega) h
    ·rename_i hb
     rw[if_neg hb] at h
     split
     ·rename_i hc
      rw[if_pos hc] at h
      exact ih (l.length-(x+2)) (by omega) (x+2) rfl (by omega) h
     ·rfl
theorem Ag.op {n:Nat} {l l':List UInt8} (a:Ag n l l') {x:Nat} (h:x+3≤n):opAt l' x=opAt l x:=by
  have h1:=a.h
  have h2:=a.h'
  unfold opAt
  rw[a.e x (by omega),show min 3 (l.length-x)=3 by omega,show min 3 (l'.length-x)=3 by omega,←opN_take _ 3 3 (Nat.le_refl _),←opN_take (l.drop x) 3 3 (Nat.le_refl _)]
  have e:(l.drop x).take 3=(l'.drop x).take 3:=by
    rw[←sub_take' l x 3 (by omega),←sub_take' l' x 3 (by omega)]
    exact a.sub h
  rw[e]
theorem rAt_congr {l l':List UInt8}:∀(k:Nat),(∀i,i<k→l.getD i 0=l'.getD i 0)→rAt l k=rAt l' k
  | 0,_=>rfl
  | k+1,h=>by
    show rStep (rAt l k).1 (rAt l k).2 (l.getD k 0) k=rStep (rAt l' k).1 (rAt l' k).2 (l'.getD k 0) k
    rw[rAt_congr k (fun i hi=>h i (by omega)),h k (by omega)]
theorem Ag.stop {n:Nat} {l l':List UInt8} (a:Ag n l l') {x j:Nat} (h:x+j<n):endStop l' x j=endStop l x j:=by
  unfold endStop
  rw[a.e _ h,rAt_congr (l:=l'.drop x) (l':=l.drop x) j (fun i hi=>by rw[getD_drop,getD_drop,a.e _ (by omega)])]
theorem endF_spec (s:Nat→Bool):∀(m k:Nat),k≤endF s m k∧endF s m k≤k+m∧(∀j,k≤j→j<endF s m k→s j=false)∧(endF s m k<k+m→s (endF s m k)=true)
  | 0,k=>⟨Nat.le_refl _,Nat.le_refl _,fun j h1 h2=>by simp only[endF] at h2;omega,fun h=>by simp only[endF] at h;omega⟩
  | m+1,k=>by
    unfold endF
    by_cases hs:s k=true
    ·rw[if_pos hs]
     exact⟨Nat.le_refl _,by omega,fun j h1 h2=>by omega,fun _=>hs⟩
    ·rw[if_neg hs]
     obtain⟨h1,h2,h3,h4⟩:=endF_spec s m (k+1)
     refine⟨by omega,by omega,fun j h5 h6=>?_,fun h=>h4 (by omega)⟩
     by_cases e:j=k
     ·subst e;simpa using hs
     ·exact h3 j (by omega) h6
theorem endF_uniq (s:Nat→Bool) (m k e:Nat) (h1:k≤e) (h2:e<k+m) (h3:∀j,k≤j→j<e→s j=false) (h4:s e=true):endF s m k=e:=by
  obtain⟨a1,a2,a3,a4⟩:=endF_spec s m k
  have b1:¬endF s m k<e:=fun h=>by have:=h3 _ a1 h;rw[a4 (by omega)] at this;cases this
  have b2:¬e<endF s m k:=fun h=>by have:=a3 _ h1 h;rw[h4] at this;cases this
  omega
theorem endL_le (l:List UInt8) (x:Nat):endL l x≤l.length-x:=by
  have:=(endF_spec (endStop l x) (l.length-x) 0).2.1
  unfold endL
  omega
theorem Ag.word {n:Nat} {l l':List UInt8} (a:Ag n l l') {x:Nat} (h:x+endL l x<n):endL l' x=endL l x:=by
  have h1:=a.h
  have h2:=a.h'
  obtain⟨a1,a2,a3,a4⟩:=endF_spec (endStop l x) (l.length-x) 0
  have e:endF (endStop l x) (l.length-x) 0=endL l x:=rfl
  rw[e] at a1 a2 a3 a4
  refine endF_uniq _ _ _ _ (by omega) (by omega) (fun j hj hj2=>?_) ?_
  ·rw[a.stop (by omega)];exact a3 j hj hj2
  ·rw[a.stop h];exact a4 (by omega)
theorem dig_ends (c:UInt8) (h:digB c=true):endsB c=false:=by
  have:=byte_all (fun c => !digB c || !endsB c) (by decide +kernel) c
  simpa [h] using this
theorem dig_word (l:List UInt8) (x:Nat):digN l x≤endL l x:=by
  obtain⟨a1,a2,a3,a4⟩:=endF_spec (endStop l x) (l.length-x) 0
  have e:endF (endStop l x) (l.length-x) 0=endL l x:=rfl
  rw[e] at a1 a2 a3 a4
  refine Nat.le_of_not_lt fun h=>?_
  have h1:digN l x≤l.length-x:=spanL_le digB l x
  have h2:=a4 (by omega)
  have h3:=dig_ends _ (span_all digB l x _ h)
  unfold endStop endB at h2
  rw[h3] at h2
  simp at h2
theorem Ag.num {n:Nat} {l l':List UInt8} (a:Ag n l l') {x:Nat} (h:x+digN l x<n):numB l' x=numB l x:=by
  have h1:=a.h
  have h2:=a.h'
  have hs:digN l' x=digN l x:=a.span h
  unfold numB
  rw[hs,a.e _ h,decide_eq_true (show x+digN l x<l.length by omega),decide_eq_true (show x+digN l x<l'.length by omega)]
theorem noends_word (l:List UInt8) (x:Nat) (hx:x<l.length) (h:endsB (l.getD x 0)=false):0<endL l x:=by
  obtain⟨a1,a2,a3,a4⟩:=endF_spec (endStop l x) (l.length-x) 0
  have e:endF (endStop l x) (l.length-x) 0=endL l x:=rfl
  rw[e] at a1 a2 a3 a4
  refine Nat.pos_of_ne_zero fun h0=>?_
  rw[h0] at a4
  have:=a4 (by omega)
  unfold endStop endB at this
  rw[Nat.add_zero,h] at this
  simp at this
theorem ends_or (c:UInt8) (h:endsB c=true):blankB c=true∨c.toNat=10∨clsOf c=3:=by
  have:=byte_all (fun c => !endsB c||(blankB c||c.toNat==10||clsOf c==3)) (by decide +kernel) c
  simpa [h,or_assoc] using this
theorem plainL_to (l:List UInt8) (x:Nat) (hx:x<l.length):(plainL l x).fr=x∧x<(plainL l x).to∧(plainL l x).to≤l.length∧1≤(plainL l x).kd∧(plainL l x).kd≤6:=by
  unfold plainL
  split
  ·rename_i h
   have h1:=(blankL_gt l x hx).2 h
   have h2:=blankL_le l _ x rfl (by omega)
   exact⟨rfl,h1,h2.2,(by decide:1≤1),(by decide:1≤6)⟩
  ·rename_i h
   split
   ·exact⟨rfl,Nat.lt_succ_self _,hx,(by decide:1≤2),(by decide:2≤6)⟩
   ·rename_i h10
    split
    ·rename_i h35
     have h1:=lineN_le l x (by omega)
     refine⟨rfl,?_,h1.2,(by decide:1≤3),(by decide:3≤6)⟩
     show x<lineN l x
     have:((l.drop x).takeWhile fun c=>c.toNat != 10).length≠0:=by
       rw[List.drop_eq_getElem_cons hx,List.takeWhile_cons,if_pos]
       ·simp
       ·rw[List.getD_eq_getElem?_getD,List.getElem?_eq_getElem hx] at h35
        have h35:(l[x]).toNat=35:=h35
        rw[h35];rfl
     unfold lineN
     omega
    ·split
     ·rename_i hop
      refine⟨rfl,?_,?_,(by decide:1≤4),(by decide:4≤6)⟩
      ·show x<x+_;omega
      ·show x+(opAt l x).2≤l.length
       have:∀(d:List UInt8) (n:Nat),(opN d n).2≤n:=by
         intro d n
         induction n with
         | zero=>exact Nat.le_refl _
         | succ n ih=>unfold opN;split;exact Nat.le_refl _;omega
       unfold opAt
       split
       ·simp;omega
       ·have:=this (l.drop x) (min 3 (l.length-x));omega
     ·rename_i hop
      split
      ·rename_i hn
       unfold numB at hn
       simp at hn
       exact⟨rfl,by show x<x+_;omega,by show x+_≤_;omega,(by decide:1≤5),(by decide:5≤6)⟩
      ·rename_i hn
       have he:endsB (l.getD x 0)=false:=by
         cases h2:endsB (l.getD x 0)
         ·rfl
         ·exfalso
          rcases ends_or _ h2 with h3|h3|h3
          ·exact h (.inl h3)
          ·exact h10 h3
          ·exact hop ((op_same l x hx).2.2.2 h3)
       have h1:=noends_word l x hx he
       have h2:=endL_le l x
       exact⟨rfl,by show x<x+_;omega,by show x+_≤_;omega,(by decide:1≤6),(by decide:6≤6)⟩
theorem docL_to (l:List UInt8) (x:Nat) (hx:x<l.length) (X:Lx) (d:Dl) (r:List Dl):(docL l x X d r).1.fr=x∧x<(docL l x X d r).1.to∧(docL l x X d r).1.to≤l.length∧(docL l x X d r).1.kd=7:=by
  have h:=hereL_le l d.1 d.2 _ x rfl hx
  unfold docL
  split
  ·exact⟨rfl,h.1,h.2.1,rfl⟩
  ·exact⟨rfl,h.1,h.2.1,rfl⟩
theorem stepL_to (l:List UInt8) (x:Nat) (hx:x<l.length) (X:Lx):(stepL l x X).1.fr=x∧x<(stepL l x X).1.to∧(stepL l x X).1.to≤l.length∧1≤(stepL l x X).1.kd∧(stepL l x X).1.kd≤7:=by
  have hp:=plainL_to l x hx
  unfold stepL
  split
  ·rename_i d r _ _
   have:=docL_to l x hx X d r
   exact⟨this.1,this.2.1,this.2.2.1,by omega,by omega⟩
  ·exact⟨hp.1,hp.2.1,hp.2.2.1,hp.2.2.2.1,by have:=hp.2.2.2.2;show (plainL l x).kd≤7;omega⟩
theorem Ag.plain {n:Nat} {l l':List UInt8} (a:Ag n l l') {x:Nat} (hx:x<l.length) (h:(plainL l x).to+2≤n):plainL l' x=plainL l x:=by
  have h1:=a.h
  have h2:=a.h'
  have hto:=plainL_to l x hx
  have ee:=a.e x (by omega)
  have ec:=a.cont (x:=x) (by omega)
  have eo:=a.op (x:=x) (by omega)
  unfold plainL at h
  unfold plainL
  rw[←ee,ec,eo]
  split
  ·rename_i hb
   rw[if_pos hb] at h
   rw[a.blank _ x rfl (by omega) h]
  ·rename_i hb
   rw[if_neg hb] at h
   split
   ·rfl
   ·rename_i h10
    rw[if_neg h10] at h
    split
    ·rename_i h35
     rw[if_pos h35] at h
     have h:lineN l x+2≤n:=h
     rw[a.line (by omega)]
    ·rename_i h35
     rw[if_neg h35] at h
     split
     ·rfl
     ·rename_i hop
      rw[if_neg hop] at h
      by_cases hn:numB l x=true
      ·rw[if_pos hn] at h
       have h:x+digN l x+2≤n:=h
       have hs:digN l' x=digN l x:=a.span (by show x+digN l x<n;omega)
       rw[a.num (by omega),if_pos hn,if_pos hn,hs]
      ·rw[if_neg hn] at h
       have h:x+endL l x+2≤n:=h
       have hd:=dig_word l x
       rw[a.num (by omega),if_neg hn,if_neg hn,a.word (by omega),←a.sub (by omega)]
theorem Ag.step {n:Nat} {l l':List UInt8} (a:Ag n l l') {x:Nat} (hx:x<l.length) (X:Lx) (h:(stepL l x X).1.to+2≤n):stepL l' x X=stepL l x X:=by
  unfold stepL at h ⊢
  split
  ·rename_i d r hb hp
   rw[hb,hp] at h
   have hh:(hereL l x d.1 d.2).1+2≤n:=by
     simp only[docL] at h
     split at h<;>exact h
   unfold docL
   rw[a.here d.1 d.2 _ x rfl hx (by omega)]
  ·rename_i hne
   have h:(plainL l x).to+2≤n:=by
     split at h
     ·rename_i d r hb hp;exact absurd hp (fun hp=>hne d r hb hp)
     ·exact h
   rw[a.plain hx h,←a.sub (by omega)]
end Go.Proofs.YtlbfdbinaekjoaaGreatDoor
namespace Go.Proofs.YtlbfdbinaekjoaaGreatDoor
set_option linter.unusedVariables false
def tileP (l:List UInt8):List Tk→Nat→Prop
  | [],x=>x=l.length
  | t::r,x=>t.fr=x∧x<t.to∧t.to≤l.length∧1≤t.kd∧t.kd≤7∧tileP l r t.to
theorem tile_lexF (l:List UInt8):∀(m x:Nat) (X:Lx),x≤l.length→l.length<m+x→tileP l (lexF l m x X).1 x
  | 0,x,X,h1,h2=>by omega
  | m+1,x,X,h1,h2=>by
    unfold lexF
    by_cases hx:x<l.length
    ·obtain⟨a,b,c,d,e⟩:=stepL_to l x hx X
     rw[if_pos hx]
     exact⟨a,b,c,d,e,tile_lexF l m _ _ c (by omega)⟩
    ·rw[if_neg hx]
     show x=l.length
     omega
theorem tile_lexL (l:List UInt8):tileP l (lexL l).1 0:=tile_lexF l _ 0 lx0 (Nat.zero_le _) (by omega)
theorem tile_len {l:List UInt8}:∀{ts:List Tk} {x:Nat} (_:tileP l ts x),ts.length+x≤l.length
  | [],x,h=>by have h:x=l.length:=h;simp;omega
  | a::r,x,⟨h1,h2,h3,h4,h5,h6⟩=>by
    have:=tile_len h6
    simp
    omega
theorem lexL_len (l:List UInt8):(lexL l).1.length≤l.length:=by have:=tile_len (tile_lexL l);omega
end Go.Proofs.YtlbfdbinaekjoaaGreatDoor
