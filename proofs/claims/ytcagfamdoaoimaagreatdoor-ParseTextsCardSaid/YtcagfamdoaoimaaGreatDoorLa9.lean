/- Each part by the frames that make it: from where to where it goes. No program is in sight. -/
import Derived.Test.YtcagfamdoaoimaaGreatDoorPl6
import Derived.Test.YtcagfamdoaoimaaGreatDoorCls
set_option linter.unusedVariables false
set_option linter.unusedSimpArgs false
set_option maxRecDepth 100000
set_option maxHeartbeats 8000000
namespace Go.Proofs.YtcagfamdoaoimaaGreatDoor
def kh (l:List UInt8) (f k:Nat):Prop:=(f:Int)∈eV (FT l k)
theorem Ib {l:List UInt8} {f k:Nat} (h:kh l f k):f<k:=by have:=(oW l k).2 _ h;omega
theorem BB {l:List UInt8} {f k:Nat} (h:kh l f (k+1)) (hk:k≠f):kh l f k:=by
  obtain⟨j,A,B,hF,hj,hA,hB⟩:=mQ l k;unfold kh at h;rw[hF,eV,cD] at h;rcases bN.1 h with h|h
  ·have h':(f:Int)∈eV A:=h;rw[hA] at h';exact cP h'
  ·rcases hB with rfl|⟨c,rfl⟩
   ·cases h
   ·simp at h;omega
theorem BA {l:List UInt8} {f k:Nat} (h:kh l f k):∀j,f<j→j≤k→kh l f j:=by
  induction k with
  | zero=>intro j h1 h2;have:=Ib h;omega
  | succ k ih=>
    intro j h1 h2;by_cases e:j=k+1
    ·subst e;exact h
    ·exact ih (BB h (by omega)) j h1 (by omega)
theorem F1 {l:List UInt8} {f:Nat} (h:kh l f (f+1)):∃A c,FT l (f+1)=A++[(c,(f:Int))]∧∀p∈eV A,p∈eV (FT l f):=by
  obtain⟨j,A,B,hF,hj,hA,hB⟩:=mQ l f;have hs:∀p∈eV A,p∈eV (FT l f):=fun p hp=>by rw[hA] at hp;exact cP hp
  rcases hB with rfl|⟨c,rfl⟩
  ·unfold kh at h;rw[hF,bM] at h
   have:=(oW l f).2 _ (hs _ h)
   omega
  ·exact⟨A,c,hF,hs⟩
theorem Bt (c:UInt8):sZ c=12↔c.toNat=76:=by
  have:=fm (fun c=>decide (sZ c=12)==decide (c.toNat=76)) (by decide +kernel) c
  simpa using this
theorem Cx {l:List UInt8} {f k:Nat} {c:UInt8} (h:(c,(f:Int))∈FT l k) (hc:c.toNat=76):k=f+1∧∃d p r,(fY l k).1=(76,(f:Int))::(d,p)::r:=by
  have hm:(c,(f:Int))∈(fY l k).1:=by rw[jD];exact List.mem_append_left _ (by simpa [FT] using h)
  rcases Kn l k with h1|⟨d,q,r,he,h1,_,_⟩
  ·exact absurd hc (h1 _ hm)
  ·rw[he] at hm;rcases bR.1 hm with hm|hm
   ·simp only[Prod.mk.injEq] at hm;exact⟨by omega,d,q,r,by rw[he,hm.2]⟩
   ·exact absurd hc (h1 _ hm)
theorem rC (F:Nat→fg) (fr:Int) (n:Nat):∀(m k:Nat) (q:fh),q.op=true →
    (iT F fr n m k q).fr=q.fr∧(iT F fr n m k q).up=q.up ∧
    (((iT F fr n m k q).op=true∧(iT F fr n m k q).to=q.to∧(∀j,k≤j→j<k+m→fr∈eV (F j)))∨((iT F fr n m k q).op=false∧∃e:Nat,k≤e∧e<k+m∧(iT F fr n m k q).to=e∧fr∉eV (F e)∧∀j,k≤j→j<e→fr∈eV (F j))) ∧
    (((iT F fr n m k q).mode=q.mode∧(fr∉eV (F k)∨m=0))∨∃e,k≤e∧e<k+m∧fr∈eV (F e)∧(iT F fr n m k q).mode=sZ ((F e).getD (n-1) (0,0)).1)
  | 0,k,q,ho=>⟨rfl,rfl,.inl ⟨ho,rfl,fun j _ _=>by omega⟩,.inl ⟨rfl,.inr rfl⟩⟩
  | m+1,k,q,ho=>by
    unfold iT;by_cases hm:fr∈eV (F k)
    ·rw[aB (fun h=>kg.1 h hm)];obtain⟨h1,h2,h3,h4⟩:=rC F fr n m (k+1) {q with mode:=sZ ((F k).getD (n-1) (0,0)).1} ho;refine⟨h1,h2,?_,.inr ?_⟩
     ·rcases h3 with ⟨h3,h5,h6⟩|⟨h3,e,h5,h6,h7,h8,h9⟩
      ·refine .inl ⟨h3,h5,fun j hj hj2=>?_⟩;by_cases e:j=k
       ·subst e;exact hm
       ·exact h6 j (by omega) (by omega)
      ·refine .inr ⟨h3,e,by omega,by omega,h7,h8,fun j hj hj2=>?_⟩;by_cases e:j=k
       ·subst e;exact hm
       ·exact h9 j (by omega) (by omega)
     ·rcases h4 with ⟨h4,_⟩|⟨e,h5,h6,h7,h8⟩
      ·exact⟨k,an _,by omega,hm,h4⟩
      ·exact⟨e,by omega,by omega,h7,h8⟩
    ·rw[aE (kg.2 hm)];exact⟨rfl,rfl,.inr ⟨rfl,k,an _,by omega,rfl,hm,fun j _ _=>by omega⟩,.inl ⟨rfl,.inl hm⟩⟩
structure PI (l:List UInt8) (q:fh) (f:Nat):Prop where
  fr:q.fr=f
  lt:f<l.length
  al:kh l f (f+1)
  up:q.up=D5 (FT l (f+1)) (eM l f)
  kind:(q.mode≠12∧((q.op=true∧q.to=l.length∧∀j,f<j→j≤l.length→kh l f j)∨(q.op=false∧∃e:Nat,f+1<e∧e≤l.length∧q.to=e∧¬kh l f e∧∀j,f<j→j<e→kh l f j))∧∀c:UInt8,(c,(f:Int))∈FT l (f+1)→c.toNat=76→kh l f (f+2)) ∨
    (q.mode=12∧q.op=false∧q.to=f+1+(pG l (f+1):Int)∧(∃d p r,(fY l (f+1)).1=(76,(f:Int))::(d,p)::r)∧(f+2≤l.length→¬kh l f (f+2)))
theorem MR {l:List UInt8} {f:Nat} (hf:f<l.length) {q:fh} (hq:q∈mZ (FT l (f+1)) f (eM l f)):PI l (nY l (l8 l (l.length-(f+1)) (f+2) q)) f:=by
  have hal:kh l f (f+1):=by
    refine dB fun h=>?_
    rw[oL (fun p hp e=>h (by unfold kh;rw[←e];exact hp))] at hq
    cases hq
  obtain⟨A,c,hF,hs⟩:=F1 hal;rw[oK hF] at hq;simp only[List.mem_singleton] at hq;have h0:(eV (FT l (f+1)))[A.length]? = some (f:Int):=by rw[hF];simp[eV]
  have hop:q.op=true:=by rw[hq]
  have hfr:q.fr=f:=by rw[hq]
  have hup:q.up=D5 (FT l (f+1)) (eM l f):=by rw[hq]
  have hmd:q.mode=sZ c:=by rw[hq]
  have hse:=oz l f (A.length+1) (fun k hk hm=>lg l f A.length h0 k hk hm) (l.length-(f+1)) (f+2) q hop hfr (by omega);obtain⟨s1,s2,s3,s4⟩:=rC (FT l) f (A.length+1) (l.length-(f+1)) (f+2) {q with to:=l.length} hop;unfold nY;rw[←hse];generalize iT (FT l) f (A.length+1) (l.length-(f+1)) (f+2) {q with to:=l.length}=r at *;have r1:r.fr=f:=s1.trans hfr;have r2:r.up=D5 (FT l (f+1)) (eM l f):=s2.trans hup;by_cases hm:r.mode=12
  ·have e:nZ l r={r with to:=r.fr+1+(pG l (r.fr+1).toNat:Int),op:=false}:=by unfold nZ;rw[aE hm]
   rw[e];have hx:sZ c=12∧((f:Int)∉eV (FT l (f+2))∨l.length-(f+1)=0):=by
     rcases s4 with ⟨s4,s5⟩|⟨e,h1,h2,h3,h4⟩
     ·rw[hm] at s4;exact⟨by rw[←hmd];exact s4.symm,s5⟩
     ·exfalso;rw[hm] at h4;have hc:=(Bt _).1 h4.symm;have h5:=lg l f A.length h0 e (by omega) h3;rw[Nat.add_sub_cancel] at hc;rw[bq] at h5
      cases hy:(FT l e)[A.length]? with
      | none=>rw[hy] at h5;cases h5
      | some y=>
        rw[hy] at h5;obtain⟨c',p'⟩:=y;simp at h5;subst h5;rw[aF,hy] at hc
        have:=(Cx (aW hy) hc).1
        omega
   have hc:=(Bt c).1 hx.1;refine⟨r1,hf,hal,r2,.inr ⟨hm,rfl,?_,(Cx (c:=c) (by rw[hF];simp) hc).2,?_⟩⟩
   ·show r.fr+1+(pG l (r.fr+1).toNat:Int)=_;rw[r1];rfl
   ·intro h2;rcases hx.2 with h|h
    ·exact h
    ·omega
  ·have e:nZ l r=r:=by unfold nZ;rw[aB hm]
   rw[e];refine⟨r1,hf,hal,r2,.inl ⟨hm,?_,?_⟩⟩
   rotate_left
   ·intro c' hc' h76;rcases s4 with ⟨s4,s5⟩|⟨e,h1,h2,h3,h4⟩
    ·exfalso;obtain⟨i,hi⟩:=List.mem_iff_getElem?.1 hc';have hi2:(eV (FT l (f+1)))[i]? = some (f:Int):=by rw[bq,hi];rfl
     have:=rH (rk l (f+1)) hi2 h0
     subst this;rw[hF] at hi;simp at hi;subst hi;exact hm (by rw[s4];show q.mode=12;rw[hmd];exact(Bt _).2 h76)
    ·exact BA h3 (f+2) (by omega) (by omega)
   rcases s3 with ⟨h1,h2,h3⟩|⟨h1,e,h2,h3,h4,h5,h6⟩
   ·refine .inl ⟨h1,h2,fun j hj hj2=>?_⟩;by_cases e:j=f+1
    ·subst e;exact hal
    ·exact h3 j (by omega) (by omega)
   ·refine .inr ⟨h1,e,by omega,by omega,h4,h5,fun j hj hj2=>?_⟩;by_cases e:j=f+1
    ·subst e;exact hal
    ·exact h6 j (by omega) (by omega)
theorem AJ (l:List UInt8):dS l=(List.range l.length).flatMap (fun f=>(mZ (FT l (f+1)) f (eM l f)).map fun q=>nY l (l8 l (l.length-(f+1)) (f+2) q)):=by
  rw[←tM];exact(pH l l.length (an _)).1
theorem Dx (l:List UInt8):ib (dS l)=ib (eM l l.length):=by
  unfold dS;simp only[ib,List.map_map];exact cK fun q _=>Ct l q
theorem AI (l:List UInt8):(ib (dS l)).Pairwise (· < ·):=by rw[Dx];exact(mM l l.length).rise
theorem MQ {l:List UInt8} {q:fh} {f:Nat} (hq:PI l q f):(f:Int)<q.to∧q.to≤(l.length:Int):=by
  have hfl:=hq.lt;rcases hq.kind with ⟨_,h,_⟩|⟨_,_,h,_,_⟩
  ·rcases h with ⟨_,h,_⟩|⟨_,e,h1,h2,h3,_⟩
   ·rw[h];omega
   ·rw[h3];omega
  ·have:=wB l (f+1)
   rw[h];omega
theorem IP {L:List fh} (hr:(ib L).Pairwise (· < ·)) {i k:Nat} {p q:fh} (hi:L[i]? = some p) (hk:L[k]? = some q):k<i↔q.fr<p.fr:=by
  obtain⟨h1,h2⟩:=aC.1 hi;obtain⟨h3,h4⟩:=aC.1 hk;have hp:=cL.1 hr;have g1:(ib L)[i]'(by simpa using h1)=p.fr:=by simp[ib,h2]
  have g3:(ib L)[k]'(by simpa using h3)=q.fr:=by simp[ib,h4]
  constructor
  ·intro h
   have:=hp k i (by simpa using h3) (by simpa using h1) h
   rwa [g1,g3] at this
  ·intro h;refine Nat.lt_of_not_le fun hh=>?_
   rcases Nat.lt_or_eq_of_le hh with h5|h5
   ·have:=hp i k (by simpa using h1) (by simpa using h3) h5
    rw[g1,g3] at this;omega
   ·subst h5;rw[hi] at hk;injection hk with hk
    subst hk;omega
theorem getD_some {L:List fh} {k:Nat} {q:fh} (h:L[k]? = some q):L.getD k dP=q:=by rw[aF,h];rfl
theorem LZ (c:UInt8):sZ c=13↔c.toNat=88:=by
  have:=fm (fun c=>decide (sZ c=13)==decide (c.toNat=88)) (by decide +kernel) c
  simpa using this
def PX (st:fg) (a:Int) (x:fg×Bool):Prop:=∀y∈x.1,y.1=88→y∈st∨y.2=a
theorem PX.same {st:fg} {a:Int} {f:Bool}:PX st a (st,f):=fun y hy _=>.inl hy
theorem PX.tail {st:fg} {a:Int} {f:Bool}:PX st a (st.tail,f):=fun y hy _=>.inl (List.mem_of_mem_tail hy)
theorem PX.push {st:fg} {a:Int} {f:Bool} {c:UInt8}:PX st a ((c,a)::st,f):=fun y hy _=>by
  rcases bR.1 hy with rfl|hy
  ·exact .inr rfl
  ·exact .inl hy
theorem PX.turn {r:fg} {a p:Int} {f:Bool} {c d:UInt8} (hc:c≠88):PX ((d,p)::r) a ((c,p)::r,f):=fun y hy h=>by
  rcases bR.1 hy with rfl|hy
  ·exact absurd h hc
  ·exact .inl (cj _ hy)
theorem PX.deep {r:fg} {a:Int} {y:UInt8×Int} {x:fg×Bool} (h:PX r a x):PX (y::r) a x:=fun z hz e=>by
  rcases h z hz e with h1|h1
  ·exact .inl (cj _ h1)
  ·exact .inr h1
theorem PX.other {r:fg} {a p:Int} {c d:UInt8} {x:fg×Bool} (hc:c≠88) (h:PX ((c,p)::r) a x):PX ((d,p)::r) a x:=fun z hz e=>by
  rcases h z hz e with h1|h1
  ·rcases bR.1 h1 with rfl|h1
   ·exact absurd e hc
   ·exact .inl (cj _ h1)
  ·exact .inr h1
theorem oC (st:fg) (f:Bool) (c b:UInt8) (a:Int):PX st a (dK st f c b a):=by
  unfold dK
  repeat' (refine ej (PX st a) (fun _=>?_) (fun _=>?_))
  all_goals first
    | exact rProgram_px _ _ _ _ _
    | exact PX.push
    | exact PX.tail
    | exact PX.same
    | (cases st with
       | nil=>exact PX.same
       | cons y r=>exact PX.turn (by decide))
theorem EQ (st:fg) (f:Bool) (b:UInt8) (a:Int):PX st a (ez st f b a):=by
  match st with
  | []=>exact PX.same
  | (c,p)::r=>
    unfold ez;refine ej (PX ((c,p)::r) a) (fun _=>?_) (fun _=>?_)
    ·refine ej (PX ((c,p)::r) a) (fun _=>PX.turn (by decide)) (fun _=>?_);refine ej (PX ((c,p)::r) a) (fun _=>?_) (fun _=>?_)
     ·cases r with
      | nil=>exact PX.turn (by decide)
      | cons y r=>exact ej (PX ((c,p)::y::r) a) (fun _=>PX.turn (by decide)) (fun _=>PX.turn (by decide))
     ·refine ej (PX ((c,p)::r) a) (fun _=>PX.same.deep) (fun _=>?_)
      cases r with
      | nil=>exact PX.same.deep
      | cons y r=>exact(oC _ _ _ _ _).deep
    ·refine ej (PX ((c,p)::r) a) (fun _=>?_) (fun _=>?_)
     ·exact ej (PX ((c,p)::r) a) (fun _=>PX.turn (by decide)) (fun _=>(oC _ _ _ _ _).other (by decide))
     ·refine ej (PX ((c,p)::r) a) (fun _=>?_) (fun _=>oC _ _ _ _ _);exact ej (PX ((c,p)::r) a) (fun _=>PX.same.deep) (fun _=>(oC _ _ _ _ _).other (by decide))
theorem DG {l:List UInt8} {f k:Nat} {c:UInt8} (hk:f+2≤k) (h:(c,(f:Int))∈FT l k):c.toNat≠88:=by
  intro hc;obtain rfl:c=88:=cV.1 hc;obtain⟨k,rfl⟩:∃k',k=k'+1:=⟨k-1,by omega⟩;have hm:((88:UInt8),(f:Int))∈(fY l (k+1)).1:=by rw[jD];exact List.mem_append_left _ (by simpa [FT] using h)
  have hs:(fY l (k+1)).1=(ez (fY l k).1 (fY l k).2 (l.getD k 0) k).1:=rfl;rcases EQ (fY l k).1 (fY l k).2 (l.getD k 0) k _ (by rw[←hs];exact hm) rfl with h1|h1
  ·have hv:=sf l k;have hx:=jD l k;have hnd:(eV (XT l k)).Nodup:=by rw[di];exact(xi l k).1.imp (fun h=>by omega)
   cases hst:(fY l k).1 with
   | nil=>rw[hst] at h1;cases h1
   | cons y r=>
     obtain⟨d,p⟩:=y;rw[hst] at h1 hv;rcases bR.1 h1 with h2|h2
     ·simp only[Prod.mk.injEq] at h2;obtain⟨rfl,rfl⟩:=h2;have e:(ez (fY l k).1 (fY l k).2 (l.getD k 0) k).1=r:=by rw[hst];unfold ez dK;simp
      rw[hs,e] at hm;have hX:((88:UInt8),(f:Int))∈XT l k:=by
        have:((88:UInt8),(f:Int))∈(fY l k).1:=by rw[hst];exact dr
        rw[hx] at this;rcases bN.1 this with h3|h3
        ·exact h3
        ·simp at h3
      cases hXT:XT l k with
      | nil=>rw[hXT] at hX;cases hX
      | cons z Z=>
        rw[hXT] at hx hnd;rw[hst,bv] at hx;injection hx with hz hr
        subst hz;rw[hr] at hm;simp only[eV,cE,List.nodup_cons] at hnd;rcases bN.1 hm with h3|h3
        ·exact hnd.1 (cH.2 ⟨_,h3,rfl⟩)
        ·simp at h3
     ·have:=hv.2 _ h2
      exact absurd (show zH 88=true from this) (by decide)
  ·simp at h1;omega
theorem tJ {l:List UInt8} {q:fh} (h:q∈dS l):∃f t:Nat,q.fr=f∧q.to=t∧f<t∧t≤l.length∧(q.mode≠12→q.op=false→f+2≤t)∧(q.op=true→t=l.length)∧(q.mode=13→t≤f+2):=by
  have h0:=h;rw[AJ] at h;obtain⟨f,hf,hq⟩:=List.mem_flatMap.1 h;have hf:=cT.1 hf;obtain⟨q0,hq0,rfl⟩:=cH.1 hq;have hp:=MR hf hq0;have hto:=MQ hp;obtain⟨t,ht⟩:∃t:Nat,(nY l (l8 l (l.length-(f+1)) (f+2) q0)).to=t:=⟨_,(Int.toNat_of_nonneg (by omega)).symm⟩;refine⟨f,t,hp.fr,ht,by omega,by omega,?_,?_,?_⟩
  ·intro h12 hop;rcases hp.kind with ⟨_,h1|⟨_,e,h2,h3,h4,_⟩,_⟩|h1
   ·rw[h1.1] at hop;cases hop
   ·omega
   ·exact absurd h1.1 h12
  ·intro hop;rcases hp.kind with ⟨_,h1|⟨h2,_⟩,_⟩|h1
   ·have:=h1.2.1;omega
   ·rw[hop] at h2;cases h2
   ·rw[h1.2.1] at hop;cases hop
  ·intro h13;have hgone:¬kh l f (f+2)∨l.length≤f+1:=by
     have hal:=hp.al;obtain⟨A,c,hF,hs⟩:=F1 hal;rw[oK hF] at hq0;simp only[List.mem_singleton] at hq0;have i0:(eV (FT l (f+1)))[A.length]? = some (f:Int):=by rw[hF];simp[eV]
     have hop:q0.op=true:=by rw[hq0]
     have hfr:q0.fr=f:=by rw[hq0]
     have hse:=oz l f (A.length+1) (fun k hk hm=>lg l f A.length i0 k hk hm) (l.length-(f+1)) (f+2) q0 hop hfr (by omega);obtain⟨s1,s2,s3,s4⟩:=rC (FT l) f (A.length+1) (l.length-(f+1)) (f+2) {q0 with to:=l.length} hop;rw[show nY l (l8 l (l.length-(f+1)) (f+2) q0)=nZ l (lu l.length (l8 l (l.length-(f+1)) (f+2) q0)) from rfl,←hse] at h13;generalize iT (FT l) f (A.length+1) (l.length-(f+1)) (f+2) {q0 with to:=l.length}=r at *;have hr:r.mode=13:=by
       unfold nZ at h13;by_cases h12:r.mode=12
       ·rw[aE h12] at h13
        have:r.mode=13:=h13
        omega
       ·rw[aB h12] at h13;exact h13
     rcases s4 with ⟨_,h5|h5⟩|⟨e,h1,h2,h3,h4⟩
     ·exact .inl h5
     ·exact .inr (by omega)
     ·exfalso;rw[hr] at h4;have hc:=(LZ _).1 h4.symm;have h5:=lg l f A.length i0 e (by omega) h3;rw[Nat.add_sub_cancel] at hc;rw[bq] at h5
      cases hy:(FT l e)[A.length]? with
      | none=>rw[hy] at h5;cases h5
      | some y=>
        rw[hy] at h5;simp at h5;rw[aF,hy] at hc;exact DG (c:=y.1) h1 (by rw[←h5];exact aW hy) hc
   rcases hp.kind with ⟨_,⟨h1,h2,h3⟩|⟨_,e,h2,h3,h4,_,h6⟩,_⟩|h1
   ·rcases hgone with hg|hg
    ·have:¬(f+2≤l.length):=fun hh=>hg (h3 (f+2) (by omega) hh)
     omega
    ·omega
   ·rcases hgone with hg|hg
    ·have:¬(f+2<e):=fun hh=>hg (h6 (f+2) (by omega) hh)
     omega
    ·omega
   ·rw[h1.1] at h13;cases h13
structure Pc where
  ex:Bool
  qu:Bool
  tx:List UInt8
variable {l':List UInt8} {x N n i y x' j i' j':Nat} {q:fh} (l w a:List UInt8) (P L:List Pc) (p:UInt8→Bool) (d:List UInt8) (c:UInt8) (buf b:List UInt8) (k:Nat) (t:Bool)
def sub (l:List UInt8) (a b:Nat):List UInt8:=(l.take b).drop a
def gJ (L:List fh) (x:Nat):Option fh:=L.find? (fun q=>q.fr==(x:Int))
def ei (q:fh):Nat:=q.to.toNat
def kz (q:fh) (x:Nat):Bool:=decide (q.mode=12∧ei q=x+1)
def kP (q:fh):Nat:=if q.op=true then ei q else ei q-1
def uR (c:UInt8):Bool:=c.toNat==36||c.toNat==96||c.toNat==34||c.toNat==92
def nw (l:List UInt8) (q:fh) (x:Nat):List UInt8:=
  if ei q<x+2 then [] else if uR (l.getD (x+1) 0)=true then [l.getD (x+1) 0] else if (l.getD (x+1) 0).toNat=10 then [] else sub l x (ei q)
def po (b:List UInt8):List Pc:=if b=[] then [] else [⟨false,false,b⟩]
def Cs (b:List UInt8):List Pc:=if b=[] then [] else [⟨false,true,b⟩]
def jx (l:List UInt8) (L:List fh) (e:Nat):Nat→Nat→List UInt8→Bool→List Pc
  | 0,_,_,_=>[]
  | m+1,x,here,ex=>
    if x<e then
      match gJ L x with
      | none=>jx l L e m (x+1) (here++[l.getD x 0]) ex
      | some q=>
        if kz q x=true then jx l L e m (x+1) (here++[l.getD x 0]) ex
        else if q.mode=13 then jx l L e m (ei q) (here++nw l q x) ex
        else Cs here++⟨true,true,sub l x (ei q)⟩::jx l L e m (ei q) [] true
    else if here=[]∧ex=true then [] else [⟨false,true,here⟩]
def iw (l:List UInt8) (L:List fh):Nat→Nat→List UInt8→List Pc
  | 0,_,buf=>po buf
  | m+1,x,buf=>
    if x<l.length then
      match gJ L x with
      | none=>iw l L m (x+1) (buf++[l.getD x 0])
      | some q=>
        if kz q x=true∨q.mode=14 then iw l L m (ei q) (buf++sub l x (ei q))
        else if q.mode=13 then
          (if sub l (x+1) (ei q)=[]∨sub l (x+1) (ei q)=[10] then iw l L m (ei q) buf
           else po buf++⟨false,true,sub l (x+1) (ei q)⟩::iw l L m (ei q) [])
        else if q.mode=4 then po buf++⟨false,true,sub l (x+1) (kP q)⟩::iw l L m (ei q) []
        else if q.mode=5 then po buf++(jx l L (kP q) (l.length+1) (x+1) [] false++iw l L m (ei q) [])
        else po buf++⟨true,false,sub l x (ei q)⟩::iw l L m (ei q) []
    else po buf
def lK (l:List UInt8):List Pc:=iw l (dS l) (l.length+1) 0 []
def tH (out:List Pc) (t:List UInt8) (fresh:Bool):List Pc:=
  match out.getLast? with
  | some p=>if fresh=false then out.dropLast++[⟨false,false,p.tx++t⟩] else out++[⟨false,false,t⟩]
  | none=>out++[⟨false,false,t⟩]
def qV (l:List UInt8) (L:List fh) (e:Nat):Nat→Nat→List UInt8→List Pc→List Pc
  | 0,_,_,out=>out
  | m+1,x,here,out=>
    if x<e then
      match gJ L x with
      | none=>qV l L e m (x+1) (here++sub l x (x+1)) out
      | some q=>
        if kz q x=true then qV l L e m (x+1) (here++sub l x (x+1)) out
        else if q.mode=13 then
          qV l L e m (ei q) (if ei q=x+2 then (if uR (l.getD (x+1) 0)=true then here++sub l (x+1) (x+2) else if (l.getD (x+1) 0).toNat=10 then here else here++sub l x (x+2)) else here) out
        else qV l L e m (ei q) [] ((if here=[] then out else out++[⟨false,true,here⟩])++[⟨true,true,sub l x (ei q)⟩])
    else if here=[]∧out≠[] then out else out++[⟨false,true,here⟩]
def pF (l:List UInt8) (L:List fh):Nat→Nat→List Pc→Bool→List Pc
  | 0,_,out,_=>out
  | m+1,x,out,fresh=>
    if x<l.length then
      match gJ L x with
      | none=>pF l L m (x+1) (tH out (sub l x (x+1)) fresh) false
      | some q=>
        if q.mode=14∨kz q x=true then pF l L m (ei q) (tH out (sub l x (ei q)) fresh) false
        else if q.mode=13 then
          (if ei q=x+2∧(l.getD (x+1) 0).toNat≠10 then pF l L m (ei q) (out++[⟨false,true,sub l (x+1) (ei q)⟩]) true
           else pF l L m (ei q) out fresh)
        else if q.mode=4 then pF l L m (ei q) (out++[⟨false,true,sub l (x+1) (kP q)⟩]) true
        else if q.mode=5 then pF l L m (ei q) (out++qV l L (kP q) (l.length+1) (x+1) [] []) true
        else pF l L m (ei q) (out++[⟨true,false,sub l x (ei q)⟩]) true
    else out
theorem qa {l:List UInt8} (h:x<l.length):sub l x (x+1)=[l.getD x 0]:=by
  unfold sub;rw[bH h,List.drop_append_of_le_length (by simp;omega),List.drop_of_length_le (by simp;omega),aF,ax h];rfl
theorem jL {l:List UInt8} {a b:Nat} (h:b≤l.length):(sub l a b).length=b-a:=by unfold sub;simp;omega
structure PL (l:List UInt8) (L:List fh):Prop where
  two:∀q∈L,∃f t:Nat,q.fr=f∧q.to=t∧f<t∧t≤l.length∧(q.mode≠12→q.op=false→f+2≤t)∧(q.op=true→t=l.length)∧(q.mode=13→t≤f+2)
theorem ll:PL l (dS l):=⟨fun q h=>tJ h⟩
theorem gw {l:List UInt8} {L:List fh} (hL:PL l L) (h:gJ L x=some q):q∈L∧q.fr=x∧q.to=ei q∧x<ei q∧ei q≤l.length∧(q.mode≠12→q.op=false→x+2≤ei q)∧(q.op=true→ei q=l.length)∧(q.mode=13→ei q≤x+2):=by
  have h1:=List.mem_of_find?_eq_some h;have h2:q.fr=x:=by have:=List.find?_some h;simpa using this
  obtain⟨f,t,a,b,c,d,e,g,i⟩:=hL.two q h1;have e1:ei q=t:=by unfold ei;omega
  have e2:f=x:=by omega
  subst e2;rw[e1];exact⟨h1,h2,b,c,d,e,g,i⟩
theorem lz {l:List UInt8} {L:List fh} (hL:PL l L) (e:Nat) (he:e≤l.length):∀(m x:Nat) (here:List UInt8) (out:List Pc),qV l L e m x here out=out++jx l L e m x here (decide (out≠[]))
  | 0,_,_,out=>by simp[qV,jx]
  | m+1,x,here,out=>by
    unfold qV jx;by_cases hx:x<e
    ·rw[aE hx,aE hx]
     cases hf:gJ L x with
     | none=>simp only;rw[qa (by omega)];exact lz hL e he m _ _ _
     | some q=>
       obtain⟨_,hfr,hto,hlt,hle,h2,_,h13⟩:=gw hL hf;simp only;by_cases hlone:kz q x=true
       ·rw[aE hlone,aE hlone,qa (by omega)];exact lz hL e he m _ _ _
       ·rw[aB hlone,aB hlone];by_cases hm:q.mode=13
        ·rw[aE hm,aE hm];have e1:(if ei q=x+2 then (if uR (l.getD (x+1) 0)=true then here++sub l (x+1) (x+2) else if (l.getD (x+1) 0).toNat=10 then here else here++sub l x (x+2)) else here)=here++nw l q x:=by
           unfold nw
           have:=h13 hm
           by_cases h22:ei q=x+2
           ·have e2:sub l (x+1) (x+2)=[l.getD (x+1) 0]:=qa (x:=x+1) (by omega);rw[h22,e2];generalize l.getD (x+1) 0=c;by_cases hb:uR c=true
            ·simp[hb]
            ·by_cases h10:c.toNat=10
             ·simp[hb,h10]
             ·simp[hb,h10]
           ·have h3:ei q<x+2:=by omega
            simp[h22,h3]
         rw[e1];exact lz hL e he m _ _ _
        ·rw[aB hm,aB hm,lz hL e he m];have e1:decide (((if here=[] then out else out++[(⟨false,true,here⟩:Pc)])++[(⟨true,true,sub l x (ei q)⟩:Pc)])≠[])=true:=by simp
         rw[e1];unfold Cs;by_cases hh:here=[]
         ·rw[aE hh,aE hh];simp
         ·rw[aB hh,aB hh];simp
    ·rw[aB hx,aB hx];by_cases hh:here=[]∧out≠[]
     ·rw[aE hh,aE ⟨hh.1,by simpa using hh.2⟩];simp
     ·rw[aB hh,aB (fun h=>hh ⟨h.1,by simpa using h.2⟩)]
theorem Lh (t:List UInt8) (ht:t≠[]):tH (P++po buf) t buf.isEmpty=P++po (buf++t):=by
  unfold po;rw[aB (show buf++t≠[] by simp[ht])]
  cases buf with
  | nil=>
    unfold tH;rw[aE rfl,bM]
    cases P.getLast? <;> simp
  | cons b buf=>
    unfold tH;rw[aB (by simp)];simp
theorem nM {l:List UInt8} {L:List fh} (hL:PL l L):∀(m x:Nat) (P:List Pc) (buf:List UInt8),pF l L m x (P++po buf) buf.isEmpty=P++iw l L m x buf
  | 0,_,P,buf=>rfl
  | m+1,x,P,buf=>by
    unfold pF iw;by_cases hx:x<l.length
    ·rw[aE hx,aE hx];have hgo:∀(t:List UInt8) (y:Nat),t≠[]→pF l L m y (tH (P++po buf) t buf.isEmpty) false=P++iw l L m y (buf++t):=by
       intro t y ht;rw[Lh P buf t ht]
       have:=nM hL m y P (buf++t)
       rwa [show (buf++t).isEmpty=false by cases buf<;>cases t<;>simp_all] at this
     have hnew:∀(Y:List Pc) (y:Nat),pF l L m y (P++po buf++Y) true=P++(po buf++(Y++iw l L m y [])):=by
       intro Y y
       have:=nM hL m y (P++po buf++Y) []
       rw[show po []=([]:List Pc) from rfl,bM] at this;rw[show ([]:List UInt8).isEmpty=true from rfl] at this;rw[this];simp
     cases hf:gJ L x with
     | none=>simp only;rw[qa hx];exact hgo _ _ (by simp)
     | some q=>
       obtain⟨_,hfr,hto,hlt,hle,h2,_,h13⟩:=gw hL hf;have hne:sub l x (ei q)≠[]:=by intro h;have:=jL (a:=x) hle;rw[h] at this;simp at this;omega
       simp only;by_cases hlone:kz q x=true∨q.mode=14
       ·rw[aE hlone.symm,aE hlone];exact hgo _ _ hne
       ·rw[aB (fun h=>hlone h.symm),aB hlone];by_cases hm:q.mode=13
        ·rw[aE hm,aE hm];have h3:=h13 hm;by_cases h22:ei q=x+2
         ·have hs:sub l (x+1) (ei q)=[l.getD (x+1) 0]:=by rw[h22];exact qa (by omega)
          rw[hs];by_cases h10:(l.getD (x+1) 0).toNat=10
          ·rw[aB (by intro h;exact h.2 h10),aE (.inr (by rw[show l.getD (x+1) 0=10 from cV.1 h10]))];exact nM hL m _ P buf
          ·rw[aE ⟨h22,h10⟩,aB (by rintro (h|h);cases h;injection h with h _;exact h10 (by rw[h];rfl))];exact hnew [_] _
         ·have hs:sub l (x+1) (ei q)=[]:=bJ (by rw[jL hle];omega);rw[aB (fun h=>h22 h.1),aE (.inl hs)];exact nM hL m _ P buf
        ·rw[aB hm,aB hm];by_cases h4:q.mode=4
         ·rw[aE h4,aE h4];exact hnew [_] _
         ·rw[aB h4,aB h4];by_cases h5:q.mode=5
          ·rw[aE h5,aE h5,lz hL _ (by unfold kP;split<;>omega)];exact hnew _ _
          ·rw[aB h5,aB h5];exact hnew [_] _
    ·rw[aB hx,aB hx]
theorem Li:pF l (dS l) (l.length+1) 0 [] true=lK l:=nM (ll l) (l.length+1) 0 [] []
def pT (L:List Pc):List UInt8:=L.flatMap (·.tx)
theorem te (x:Pc):pT (L++[x])=pT L++x.tx:=by simp[pT]
theorem sH:∀(L:List Pc) (N:Nat),(∀x∈L,x.tx.length≤N)→(pT L).length≤L.length*N
  | [],_,_=>by simp[pT]
  | x::r,N,h=>by
    have h1:=sH r N (fun y hy=>h y (cj _ hy));have h2:=h x dr;have e:(pT (x::r)).length=x.tx.length+(pT r).length:=by simp[pT]
    rw[e,aO,Nat.succ_mul];omega
theorem D9 {L:List Pc} {k:Nat} {x:Pc} (h:L[k]? = some x):pT (L.take (k+1))=pT (L.take k)++x.tx:=by
  obtain⟨h1,h2⟩:=aC.1 h;rw[bH h1,h2,te]
theorem D7 (N:Nat) (h:∀x∈L,x.tx.length≤N):(pT (L.take k)).length≤L.length*N:=by
  have h1:=sH (L.take k) N (fun x hx=>h x (cP hx));have h2:(L.take k).length≤L.length:=by simp;omega
  exact aA h1 (de N h2)
def qI (b:List UInt8):Nat:=if b=[] then 0 else 1
theorem qH:qI b≤1:=by unfold qI;split<;>omega
theorem oR:(po b).length=qI b:=by unfold po qI;split<;>rfl
theorem JG:(Cs b).length=qI b:=by unfold Cs qI;split<;>rfl
theorem nj {l:List UInt8} {L:List fh} (hL:PL l L) (e:Nat):∀(m x:Nat) (here:List UInt8) (ex:Bool),(jx l L e m x here ex).length≤2*(e-x)+1+qI here
  | 0,_,_,_=>by simp[jx]
  | m+1,x,here,ex=>by
    unfold jx;by_cases hx:x<e
    ·rw[aE hx]
     cases hf:gJ L x with
     | none=>
       have h1:=nj hL e m (x+1) (here++[l.getD x 0]) ex;have h2:=qH (here++[l.getD x 0]);simp only;omega
     | some q=>
       obtain⟨_,hfr,hto,hlt,hle,_⟩:=gw hL hf;simp only;split
       ·have h1:=nj hL e m (x+1) (here++[l.getD x 0]) ex;have h2:=qH (here++[l.getD x 0]);omega
       ·split
        ·have h1:=nj hL e m (ei q) (here++nw l q x) ex;have h2:=qH (here++nw l q x);omega
        ·have h1:=nj hL e m (ei q) [] true;rw[aH,aO,JG];simp only[qI,bW] at h1 ⊢;omega
    ·rw[aB hx];split
     ·simp
     ·simp only[aO,bI];omega
theorem nN {l:List UInt8} {L:List fh} (hL:PL l L):∀(m x:Nat) (buf:List UInt8),(iw l L m x buf).length≤2*(l.length-x)+qI buf
  | 0,_,buf=>by simp[iw,oR]
  | m+1,x,buf=>by
    unfold iw;by_cases hx:x<l.length
    ·rw[aE hx];have hn:∀y,(iw l L m y []).length≤2*(l.length-y):=fun y=>by have:=nN hL m y [];simpa [qI] using this
     cases hf:gJ L x with
     | none=>
       have h1:=nN hL m (x+1) (buf++[l.getD x 0]);have h2:=qH (buf++[l.getD x 0]);simp only;omega
     | some q=>
       obtain⟨_,hfr,hto,hlt,hle,h2,_⟩:=gw hL hf;have h3:=hn (ei q);simp only;split
       ·have h1:=nN hL m (ei q) (buf++sub l x (ei q));have h2:=qH (buf++sub l x (ei q));omega
       ·split
        ·split
         ·have h1:=nN hL m (ei q) buf;omega
         ·rw[aH,aO,oR];omega
        ·split
         ·rw[aH,aO,oR];omega
         ·split
          ·rename_i h5;have h4:=nj hL (kP q) (l.length+1) (x+1) [] false;have h6:kP q≤ei q:=by unfold kP;split<;>omega
           simp only[qI,bW] at h4;rw[aH,aH,oR];omega
          ·rw[aH,aO,oR];omega
    ·rw[aB hx,oR];omega
theorem tI:(lK l).length≤2*l.length:=by
  have:=nN (ll l) (l.length+1) 0 []
  simpa [qI,lK] using this
theorem iJ (a b:Nat):(sub l a b).length≤b-a:=by unfold sub;simp;omega
theorem JM {l:List UInt8} (h:x<ei q) (h2:ei q≤x+2∨True):(nw l q x).length≤ei q-x:=by
  unfold nw;split
  ·simp
  ·split
   ·simp;omega
   ·split
    ·simp
    ·exact iJ _ _ _
theorem wU {b:List UInt8} (h:b.length≤N):∀p∈po b,p.tx.length≤N:=by
  intro p hp;unfold po at hp;split at hp
  ·cases hp
  ·simp at hp;subst hp;exact h
theorem LI {b:List UInt8} (h:b.length≤N):∀p∈Cs b,p.tx.length≤N:=by
  intro p hp;unfold Cs at hp;split at hp
  ·cases hp
  ·simp at hp;subst hp;exact h
theorem pN {l:List UInt8} {L:List fh} (hL:PL l L) (e:Nat) (he:e≤l.length):∀(m x:Nat) (here:List UInt8) (ex:Bool),here.length≤x→x≤l.length→∀p∈jx l L e m x here ex,p.tx.length≤l.length
  | 0,_,_,_,_,_=>by intro p hp;cases hp
  | m+1,x,here,ex,hh,hxl=>by
    unfold jx;by_cases hx:x<e
    ·rw[aE hx]
     cases hf:gJ L x with
     | none=>exact pN hL e he m (x+1) _ ex (by simp;omega) (by omega)
     | some q=>
       obtain⟨_,hfr,hto,hlt,hle,_⟩:=gw hL hf;simp only;split
       ·exact pN hL e he m (x+1) _ ex (by simp;omega) (by omega)
       ·split
        ·exact pN hL e he m (ei q) _ ex (by have:=JM (l:=l) hlt (.inr trivial);simp;omega) hle
        ·intro p hp;rcases bN.1 hp with hp|hp
         ·exact LI (by omega) p hp
         ·rcases bR.1 hp with rfl|hp
          ·have:=iJ l x (ei q);simp only;omega
          ·exact pN hL e he m (ei q) [] true (by simp) hle p hp
    ·rw[aB hx];split
     ·intro p hp;cases hp
     ·intro p hp;simp at hp;subst hp;simp only;omega
theorem qz {l:List UInt8} {L:List fh} (hL:PL l L):∀(m x:Nat) (buf:List UInt8),buf.length≤x→x≤l.length→∀p∈iw l L m x buf,p.tx.length≤l.length
  | 0,_,buf,h,hx=>wU (by omega)
  | m+1,x,buf,h,hxl=>by
    unfold iw;by_cases hx:x<l.length
    ·rw[aE hx]
     cases hf:gJ L x with
     | none=>exact qz hL m (x+1) _ (by simp;omega) (by omega)
     | some q=>
       obtain⟨_,hfr,hto,hlt,hle,h2,_⟩:=gw hL hf;have hn:=qz hL m (ei q) [] (by simp) hle;have hone:∀(y:Pc),y.tx.length≤l.length→∀p∈po buf++y::iw l L m (ei q) [],p.tx.length≤l.length:=by
         intro y hy p hp;rcases bN.1 hp with hp|hp
         ·exact wU (by omega) p hp
         ·rcases bR.1 hp with rfl|hp
          ·exact hy
          ·exact hn p hp
       have hend:kP q≤ei q:=by unfold kP;split<;>omega
       simp only;split
       ·exact qz hL m (ei q) _ (by have:=iJ l x (ei q);simp;omega) hle
       ·split
        ·split
         ·exact qz hL m (ei q) buf (by omega) hle
         ·exact hone _ (by have:=iJ l (x+1) (ei q);simp only;omega)
        ·split
         ·exact hone _ (by have:=iJ l (x+1) (kP q);simp only;omega)
         ·split
          ·intro p hp;rcases bN.1 hp with hp|hp
           ·exact wU (by omega) p hp
           ·rcases bN.1 hp with hp|hp
            ·exact pN hL (kP q) (by omega) _ (x+1) [] false (by simp) (by omega) p hp
            ·exact hn p hp
          ·exact hone _ (by have:=iJ l x (ei q);simp only;omega)
    ·rw[aB hx];exact wU (by omega)
theorem sM:∀p∈lK l,p.tx.length≤l.length:=qz (ll l) (l.length+1) 0 [] (by simp) (by omega)
def gP:Nat→List UInt8
  | 1=>[38,38]|2=>[124,124]|3=>[59,59]|4=>[60,60]|5=>[60,60,45]|6=>[62,62]|7=>[60,38]|8=>[62,38]|9=>[60,62]
  | 10=>[62,124]|11=>[60]|12=>[62]|13=>[38]|14=>[59]|15=>[124]|16=>[40]|17=>[41]|_=>[]
def ig (w:List UInt8):Nat→Nat→Nat
  | 0,_=>0
  | m+1,k=>if gP k=w then k else ig w m (k+1)
def iy (w:List UInt8):Nat:=if w=[] then 0 else ig w 17 1
def si (d:List UInt8):Nat→Nat×Nat
  | 0=>(0,0)
  | n+1=>if iy (d.take (n+1))≠0 then (iy (d.take (n+1)),n+1) else si d n
def fj (l:List UInt8) (x:Nat):Nat×Nat:=if fp (l.getD x 0)≠3 then (0,0) else si (l.drop x) (min 3 (l.length-x))
def gZ (d:List UInt8):Nat→Nat
  | 0=>0
  | k+1=>if (gP (k+1)).isPrefixOf d=true∧(gP (gZ d k)).length<(gP (k+1)).length then k+1 else gZ d k
def uG:List UInt8:=[38,124,59,60,62,45,40,41]
def yD (c:UInt8):UInt8:=if uG.contains c then c else 0
theorem pI:∀k,∀c∈gP k,c∈uG:=by
  intro k;by_cases h:k<18
  ·have:((List.range 18).all fun k=>(gP k).all fun c=>uG.contains c)=true:=by decide +kernel
   have h2:=bX.1 this k (cT.2 h);intro c hc
   have:=bX.1 h2 c hc
   simpa using this
  ·intro c hc
   have:gP k=[]:=by unfold gP;split<;>first|omega|rfl
   rw[this] at hc
   cases hc
theorem FX {c d:UInt8} (h:c∈uG):c=yD d↔c=d:=by
  unfold yD;constructor
  ·intro e;split at e
   ·exact e
   ·subst e;exact absurd h (by decide)
  ·intro e;subst e;rw[aE (by simpa using h)]
theorem wK:∀(t w:List UInt8),(∀c∈t,c∈uG)→(t=w.map yD↔t=w)
  | [],[],_=>by simp
  | [],_::_,_=>by simp
  | _::_,[],_=>by simp
  | a::t,b::w,h=>by
    have h1:=wK t w (fun c hc=>h c (cj _ hc));have h2:=FX (d:=b) (h a dr);simp only[cE,List.cons.injEq,h1,h2]
theorem B6:∀(t w:List UInt8),(∀c∈t,c∈uG)→t.isPrefixOf (w.map yD)=t.isPrefixOf w
  | [],_,_=>by simp
  | _::_,[],_=>rfl
  | a::t,b::w,h=>by
    have h1:=B6 t w (fun c hc=>h c (cj _ hc));have h2:=FX (d:=b) (h a dr);simp only[cE,List.isPrefixOf,h1];congr 1;by_cases e:a=b
    ·subst e;simp[h2]
    ·have:¬a=yD b:=fun h=>e (h2.1 h)
     rw[ay.2 e,ay.2 this]
theorem tP (w:List UInt8):∀m k,ig (w.map yD) m k=ig w m k
  | 0,_=>rfl
  | m+1,k=>by
    unfold ig;rw[tP w m];by_cases e:gP k=w
    ·rw[aE e,aE ((wK _ _ (pI k)).2 e)]
    ·rw[aB e,aB (fun h=>e ((wK _ _ (pI k)).1 h))]
theorem FN:iy (w.map yD)=iy w:=by
  unfold iy;rw[tP];by_cases e:w=[]
  ·subst e;rfl
  ·rw[aB e,aB (by simpa using e)]
theorem Ci (d:List UInt8):∀n,si (d.map yD) n=si d n
  | 0=>rfl
  | n+1=>by
    unfold si;rw[←List.map_take,FN,Ci d n]
theorem tQ (d:List UInt8):∀k,gZ (d.map yD) k=gZ d k
  | 0=>rfl
  | k+1=>by
    unfold gZ;rw[tQ d k,B6 _ _ (pI _)]
theorem nO:(gP k).length≤3:=by
  unfold gP;split<;>simp
theorem Fa (t w:List UInt8) (n:Nat) (h:t.length≤n):t.isPrefixOf (w.take n)=t.isPrefixOf w:=by
  induction t generalizing w n with
  | nil=>simp
  | cons a t ih=>
    cases w with
    | nil=>simp
    | cons b w=>
      cases n with
      | zero=>simp at h
      | succ n=>simp only[cG,List.isPrefixOf];rw[ih w n (by simpa using h)]
theorem sj (d:List UInt8):∀k,gZ (d.take 3) k=gZ d k
  | 0=>rfl
  | k+1=>by
    unfold gZ;rw[sj d k,Fa _ _ _ (nO _)]
theorem qD (d:List UInt8) (m:Nat):∀n,n≤m→si (d.take m) n=si d n
  | 0,_=>rfl
  | n+1,h=>by
    unfold si;rw[qD d m n (by omega),List.take_take,cW h]
def l7 (d:List UInt8):Bool:=(gZ d 17==(si d (min 3 d.length)).1)&&((gP (si d (min 3 d.length)).1).length==(si d (min 3 d.length)).2)&&(fp (d.getD 0 0)==3||gZ d 17==0)&&(fp (d.getD 0 0)!=3||(si d (min 3 d.length)).2 != 0)
def pS:List UInt8:=0::uG
theorem AP:(pS.all fun a=>l7 [a])=true:=by decide +kernel
theorem AN:(pS.all fun a=>pS.all fun b=>l7 [a,b])=true:=by decide +kernel
theorem wG:(pS.all fun a=>pS.all fun b=>pS.all fun c=>l7 [a,b,c])=true:=by decide +kernel
theorem oJ:yD c∈pS:=by
  unfold yD;split
  ·rename_i h;exact cj _ (by simpa using h)
  ·exact dr
theorem Cz:(fp (yD c)==3)=(fp c==3):=by
  have:=fm (fun c=>(fp (yD c)==3)==(fp c==3)) (by decide +kernel) c
  simpa using this
theorem AQ (hd:d≠[]) (h:l7 (d.map yD)=true):l7 d=true:=by
  unfold l7 at h ⊢;have e:(d.map yD).getD 0 0=yD (d.getD 0 0):=by
    cases d with
    | nil=>exact absurd rfl hd
    | cons a r=>rfl
  rw[tQ,cC,Ci,e,Cz] at h;have e2:(fp (yD (d.getD 0 0))!=3)=(fp (d.getD 0 0)!=3):=by unfold bne;rw[Cz]
  rw[e2] at h;exact h
theorem AS (hd:d≠[]):l7 d=true:=by
  have hs:l7 (d.take 3)=true:=by
    refine AQ _ (by cases d<;>simp_all) ?_
    match d,hd with
    | [a],_=>exact bX.1 AP _ (oJ a)
    | [a,b],_=>exact bX.1 (bX.1 AN _ (oJ a)) _ (oJ b)
    | a::b::c::r,_=>exact bX.1 (bX.1 (bX.1 wG _ (oJ a)) _ (oJ b)) _ (oJ c)
  unfold l7 at hs ⊢;have e:(d.take 3).getD 0 0=d.getD 0 0:=by cases d<;>rfl
  have e2:min 3 (d.take 3).length=min 3 d.length:=by simp
  rw[sj,e2,qD _ _ _ (by omega),e] at hs;exact hs
theorem oH (x:Nat) (hx:x<l.length):gZ (l.drop x) 17=(fj l x).1∧(gP (fj l x).1).length=(fj l x).2∧(0<(fj l x).2↔fp (l.getD x 0)=3):=by
  have hd:l.drop x≠[]:=by intro h;have:=congrArg List.length h;simp at this;omega
  have h:=AS _ hd;have e:(l.drop x).getD 0 0=l.getD x 0:=by simp[aF]
  unfold l7 at h;rw[e,List.length_drop] at h;simp only[aX,aR,dA,bne_iff_ne] at h;obtain⟨⟨⟨h1,h2⟩,h3⟩,h4⟩:=h;unfold fj;by_cases hc:fp (l.getD x 0)=3
  ·rw[aB (fun h=>h hc)];refine⟨h1,h2,fun _=>hc,fun _=>?_⟩;rcases h4 with h4|h4
   ·exact absurd hc h4
   ·omega
  ·rw[aE hc];refine⟨?_,rfl,fun h=>by simp at h,fun h=>absurd h hc⟩;rcases h3 with h3|h3
   ·exact absurd h3 hc
   ·exact h3
def fM (l:List UInt8) (x:Nat):Nat:=x+((l.drop x).takeWhile fun c=>c.toNat != 10).length
def jC (t:Bool) (b:List UInt8):List UInt8:=if t=true then b.dropWhile (fun c=>c.toNat==9) else b
def lineE (l:List UInt8) (x:Nat):Nat:=if fM l x<l.length then fM l x+1 else fM l x
def ue (l w:List UInt8) (t:Bool):Nat→Nat→Nat×Bool
  | 0,x=>(x,false)
  | m+1,x=>if x<l.length then (if jC t (sub l x (fM l x))=w then (lineE l x,true) else ue l w t m (lineE l x)) else (x,false)
def fJ (l:List UInt8) (x:Nat) (w:List UInt8) (t:Bool):Nat×Bool:=ue l w t (l.length-x) x
theorem mF (x:Nat) (h:x≤l.length):x≤fM l x∧fM l x≤l.length:=by
  unfold fM
  have:=(List.takeWhile_prefix (l:=l.drop x) (fun c=>c.toNat != 10)).length_le
  simp at this;omega
theorem mG (x:Nat) (h:x<l.length):x<lineE l x∧lineE l x≤l.length:=by
  have h1:=mF l x (by omega);unfold lineE;split
  ·omega
  ·constructor
   ·have:fM l x=l.length:=by omega
    omega
   ·omega
theorem ud (l w:List UInt8) (t:Bool):∀(m m' x:Nat),l.length-x≤m→l.length-x≤m'→ue l w t m x=ue l w t m' x
  | 0,m',x,h,h'=>by
    cases m' with
    | zero=>rfl
    | succ m'=>unfold ue;rw[aB (by omega)]
  | m+1,0,x,h,h'=>by unfold ue;rw[aB (by omega)]
  | m+1,m'+1,x,h,h'=>by
    unfold ue;by_cases hx:x<l.length
    ·have:=mG l x hx
     rw[aE hx,aE hx,ud l w t m m' (lineE l x) (by omega) (by omega)]
    ·rw[aB hx,aB hx]
theorem gI (x:Nat) (w:List UInt8) (t:Bool):fJ l x w t=if x<l.length then (if jC t (sub l x (fM l x))=w then (lineE l x,true) else fJ l (lineE l x) w t) else (x,false):=by
  unfold fJ;by_cases hx:x<l.length
  ·have:=mG l x hx
   obtain⟨m,hm⟩:∃m,l.length-x=m+1:=⟨l.length-x-1,by omega⟩;rw[hm];show (if x<l.length then _ else _)=_;rw[aE hx,aE hx,ud l w t m (l.length-lineE l x) (lineE l x) (by omega) (an _)]
  ·rw[aB hx,show l.length-x=0 by omega];rfl
theorem qQ:∀(m x:Nat),l.length-x=m→x<l.length→x<(fJ l x w t).1∧(fJ l x w t).1≤l.length∧((fJ l x w t).2=false→(fJ l x w t).1=l.length):=by
  intro m
  induction m using Nat.strongRecOn with
  | _ m ih=>
    intro x hm hx;rw[gI,aE hx]
    have:=mG l x hx
    by_cases hw:jC t (sub l x (fM l x))=w
    ·rw[aE hw];exact⟨this.1,this.2,fun h=>by cases h⟩
    ·rw[aB hw];by_cases hy:lineE l x<l.length
     ·have h2:=ih (l.length-lineE l x) (by omega) (lineE l x) rfl hy;exact⟨by omega,h2.2.1,h2.2.2⟩
     ·rw[gI,aB hy];exact⟨this.1,this.2,fun _=>by show lineE l x=_;omega⟩
def gO (c:UInt8):Bool:=c.toNat==32||c.toNat==9
def gV (l:List UInt8) (x:Nat):Bool:=x+1<l.length&&(l.getD x 0).toNat==92&&(l.getD (x+1) 0).toNat==10
def ou (l:List UInt8):Nat→Nat→Nat
  | 0,x=>x
  | m+1,x=>if x<l.length then (if gO (l.getD x 0)=true then ou l m (x+1) else if gV l x=true then ou l m (x+2) else x) else x
def fE (l:List UInt8) (x:Nat):Nat:=ou l (l.length-x) x
theorem lU (l:List UInt8):∀(m m' x:Nat),l.length-x≤m→l.length-x≤m'→ou l m x=ou l m' x
  | 0,m',x,h,h'=>by
    cases m' with
    | zero=>rfl
    | succ m'=>unfold ou;rw[aB (by omega)]
  | m+1,0,x,h,h'=>by unfold ou;rw[aB (by omega)]
  | m+1,m'+1,x,h,h'=>by
    unfold ou;rw[lU l m m' (x+1) (by omega) (by omega),lU l m m' (x+2) (by omega) (by omega)]
theorem lj (x:Nat):fE l x=if x<l.length then (if gO (l.getD x 0)=true then fE l (x+1) else if gV l x=true then fE l (x+2) else x) else x:=by
  unfold fE;by_cases hx:x<l.length
  ·obtain⟨m,hm⟩:∃m,l.length-x=m+1:=⟨l.length-x-1,by omega⟩;rw[hm];show (if x<l.length then _ else _)=_;rw[aE hx,aE hx,lU l m (l.length-(x+1)) (x+1) (by omega) (an _),lU l m (l.length-(x+2)) (x+2) (by omega) (an _)]
  ·rw[aB hx,show l.length-x=0 by omega];rfl
theorem mO:∀(m x:Nat),l.length-x=m→x≤l.length→x≤fE l x∧fE l x≤l.length:=by
  intro m
  induction m using Nat.strongRecOn with
  | _ m ih=>
    intro x hm hx;rw[lj];by_cases hl:x<l.length
    ·rw[aE hl];split
     ·have:=ih (l.length-(x+1)) (by omega) (x+1) rfl (by omega);omega
     ·split
      ·rename_i hc;have hc2:x+1<l.length:=by unfold gV at hc;simp at hc;exact hc.1.1
       have:=ih (l.length-(x+2)) (by omega) (x+2) rfl (by omega);omega
      ·omega
    ·rw[aB hl];omega
theorem rV (x:Nat) (hx:x<l.length):x<fE l x↔gO (l.getD x 0)=true∨gV l x=true:=by
  rw[lj,aE hx];split
  ·rename_i h
   have:=mO l _ (x+1) rfl (by omega)
   exact⟨fun _=>.inl h,fun _=>by omega⟩
  ·rename_i h;split
   ·rename_i hc;have hc2:x+1<l.length:=by unfold gV at hc;simp at hc;exact hc.1.1
    have:=mO l _ (x+2) rfl (by omega)
    exact⟨fun _=>.inr hc,fun _=>by omega⟩
   ·rename_i hc;exact⟨fun h2=>by omega,fun h2=>by rcases h2 with h2|h2;exact absurd h2 h;exact absurd h2 hc⟩
abbrev l9 (l:List UInt8) (x:Nat):Nat:=fC gF l x
def mC (l:List UInt8) (x:Nat):Bool:=decide (0<l9 l x)&&decide (x+l9 l x<l.length)&&((l.getD (x+l9 l x) 0).toNat==60||(l.getD (x+l9 l x) 0).toNat==62)
structure Tk where
  kd:Nat
  fr:Nat
  to:Nat
  op:Bool
abbrev Dl:=List UInt8×Bool
structure Lx where
  aw:Int
  pd:List Dl
  bd:Bool
def lN (w:List UInt8):Bool:=decide (L0 (fY w w.length).1=[])
def fD (l:List UInt8) (x:Nat):Tk:=
  if gO (l.getD x 0)=true∨gV l x=true then ⟨1,x,fE l x,false⟩
  else if (l.getD x 0).toNat=10 then ⟨2,x,x+1,false⟩
  else if (l.getD x 0).toNat=35 then ⟨3,x,fM l x,false⟩
  else if 0<(fj l x).2 then ⟨4,x,x+(fj l x).2,false⟩
  else if mC l x=true then ⟨5,x,x+l9 l x,false⟩
  else ⟨6,x,x+js l x,!lN (sub l x (x+js l x))⟩
def fA (t:List UInt8) (k:Nat) (X:Lx):Lx:=
  if k=1 then ⟨X.aw,X.pd,false⟩
  else if k=2 then ⟨0,X.pd,!X.pd.isEmpty⟩
  else if k=4 then ⟨if iy t=4∨iy t=5 then (iy t:Int) else 0,X.pd,false⟩
  else if k=6 then ⟨0,if X.aw≠0 then X.pd++[(pT (lK t),decide (X.aw=5))] else X.pd,false⟩
  else ⟨0,X.pd,false⟩
def og (l:List UInt8) (x:Nat) (X:Lx) (d:Dl) (r:List Dl):Tk×Lx:=
  if (fJ l x d.1 d.2).2=true then (⟨7,x,(fJ l x d.1 d.2).1,false⟩,⟨X.aw,r,!r.isEmpty⟩) else (⟨7,x,(fJ l x d.1 d.2).1,true⟩,X)
def eJ (l:List UInt8) (x:Nat) (X:Lx):Tk×Lx:=
  match X.bd,X.pd with
  | true,d::r=>og l x X d r
  | _,_=>(fD l x,fA (sub l x (fD l x).to) (fD l x).kd X)
def oY (l:List UInt8):Nat→Nat→Lx→List Tk×Lx
  | 0,_,X=>([],X)
  | m+1,x,X=>if x<l.length then ((eJ l x X).1::(oY l m (eJ l x X).1.to (eJ l x X).2).1,(oY l m (eJ l x X).1.to (eJ l x X).2).2) else ([],X)
def xk:Lx:=⟨0,[],false⟩
def iR (l:List UInt8):List Tk×Lx:=oY l (l.length+1) 0 xk
theorem kY (x n:Nat) (h:x≤l.length):sub l x (x+n)=(l.drop x).take n:=by unfold sub;rw[List.drop_take];congr 1;omega
theorem lh (x i:Nat):(l.drop x).getD i 0=l.getD (x+i) 0:=by simp[aF]
theorem BF (p:UInt8→Bool):∀(m:List UInt8),(m.takeWhile p).length<m.length→p (m.getD (m.takeWhile p).length 0)=false
  | [],h=>by simp at h
  | b::m,h=>by
    by_cases hb:p b=true
    ·rw[dy,aE hb] at h ⊢;exact BF p m (by simpa using h)
    ·rw[dy,aB hb];simpa using hb
theorem BE (p:UInt8→Bool):∀(m:List UInt8) (k:Nat),(∀i,i<k→p (m.getD i 0)=true)→k<m.length→p (m.getD k 0)=false→(m.takeWhile p).length=k
  | [],k,_,h,_=>by simp at h
  | b::m,0,_,_,h=>by
    have hb:p b=false:=h;rw[dy,aB (by rw[hb];decide)];rfl
  | b::m,k+1,h1,h2,h3=>by
    have hb:p b=true:=h1 0 (by omega);rw[dy,aE hb,aO,BE p m k (fun i hi=>h1 (i+1) (by omega)) (by simpa using h2) h3]
theorem Ev (l:List UInt8) (x i:Nat) (h:i<fC p l x):p (l.getD (x+i) 0)=true:=by
  rw[←lh];exact BJ p (l.drop x) i h
theorem mg (l:List UInt8) (x:Nat) (h:x+fC p l x<l.length):p (l.getD (x+fC p l x) 0)=false:=by
  rw[←lh];exact BF p (l.drop x) (by have:fC p l x=((l.drop x).takeWhile p).length:=rfl;rw[List.length_drop];omega)
theorem me (l:List UInt8) (x k:Nat) (h1:∀i,i<k→p (l.getD (x+i) 0)=true) (h2:x+k<l.length) (h3:p (l.getD (x+k) 0)=false):fC p l x=k:=
  BE p (l.drop x) k (fun i hi=>by rw[lh];exact h1 i hi) (by rw[List.length_drop];omega) (by rw[lh];exact h3)
theorem jH (x:Nat):fM l x=x+fC (fun c=>c.toNat != 10) l x:=rfl
structure Ag (n:Nat) (l l':List UInt8):Prop where
  h:n≤l.length
  h':n≤l'.length
  e:∀i,i<n→l.getD i 0=l'.getD i 0
theorem Ag.symm {l:List UInt8} (a:Ag n l l'):Ag n l' l:=⟨a.h',a.h,fun i hi=>(a.e i hi).symm⟩
theorem Ag.app (c:List UInt8):Ag a.length (a++b) (a++c):=⟨by simp,by simp,fun i hi=>by rw[aF,aF,aQ hi,aQ hi]⟩
theorem Ag.take {l:List UInt8} (a:Ag n l l') (hy:y≤n):l.take y=l'.take y:=by
  refine List.ext_getElem? fun i=>?_
  rw[cQ,cQ];split
  ·rename_i hi
   have:=a.e i (by omega)
   rw[aF,aF,ax (by have:=a.h;omega),ax (by have:=a.h';omega)] at this;rw[ax (by have:=a.h;omega),ax (by have:=a.h';omega)];exact congrArg some this
  ·rfl
theorem Ag.sub {l:List UInt8} (a:Ag n l l') (hy:y≤n):sub l x y=sub l' x y:=by unfold Go.Proofs.YtcagfamdoaoimaaGreatDoor.sub;rw[a.take hy]
theorem Ag.span {l:List UInt8} (a:Ag n l l') {p:UInt8→Bool} (h:x+fC p l x<n):fC p l' x=fC p l x:=by
  have h1:=a.h;have h2:=a.h';refine me p l' x _ (fun i hi=>?_) (by omega) ?_
  ·rw[←a.e _ (by omega)];exact Ev p l x i hi
  ·rw[←a.e _ (by omega)];exact mg p l x (by omega)
theorem Ag.line {l:List UInt8} (a:Ag n l l') (h:fM l x<n):fM l' x=fM l x:=by
  rw[jH,jH] at *;rw[a.span h]
theorem Ag.here {l:List UInt8} (a:Ag n l l') (w:List UInt8) (t:Bool):∀(m x:Nat),l.length-x=m→x<l.length→(fJ l x w t).1<n→fJ l' x w t=fJ l x w t:=by
  intro m
  induction m using Nat.strongRecOn with
  | _ m ih=>
    intro x hm hx h;have h1:=a.h;have h2:=a.h';have hle:=qQ l w t _ x rfl hx;have hle2:=mG l x hx;have hln:=mF l x (by omega);have hnext:lineE l x≤(fJ l x w t).1:=by
      rw[gI,aE hx];split
      ·exact an _
      ·by_cases hy:lineE l x<l.length
       ·exact bj (qQ l w t _ (lineE l x) rfl hy).1
       ·rw[gI,aB hy];exact an _
    have hlt:fM l x<l.length:=by
      refine Nat.lt_of_not_le fun hh=>?_
      have:lineE l x=fM l x:=by unfold lineE;rw[aB (by omega)]
      omega
    have hE:lineE l x=fM l x+1:=by unfold lineE;rw[aE hlt]
    have hL:=a.line (x:=x) (by omega);have hE':lineE l' x=lineE l x:=by unfold lineE;rw[hL,aE hlt,aE (by omega)]
    have h0:=h;have hxl:x<l'.length:=by omega
    have hsub:=a.sub (x:=x) (y:=fM l x) (by omega);rw[gI] at h;rw[gI l' x,gI l x,aE hx,aE hxl,hL,hE',←hsub];rw[aE hx] at h;split
    ·rfl
    ·rename_i hw;rw[aB hw] at h;exact ih (l.length-lineE l x) (by omega) (lineE l x) rfl (by omega) h
theorem Ag.op {l:List UInt8} (a:Ag n l l') (h:x+3≤n):fj l' x=fj l x:=by
  have h1:=a.h;have h2:=a.h';unfold fj;rw[a.e x (by omega),show min 3 (l.length-x)=3 by omega,show min 3 (l'.length-x)=3 by omega,←qD _ 3 3 (an _),←qD (l.drop x) 3 3 (an _)];have e:(l.drop x).take 3=(l'.drop x).take 3:=by
    rw[←kY l x 3 (by omega),←kY l' x 3 (by omega)];exact a.sub h
  rw[e]
theorem rO (s:Nat→Bool):∀(m k:Nat),k≤ny s m k∧ny s m k≤k+m∧(∀j,k≤j→j<ny s m k→s j=false)∧(ny s m k<k+m→s (ny s m k)=true)
  | 0,k=>⟨an _,an _,fun j h1 h2=>by simp only[ny] at h2;omega,fun h=>by simp only[ny] at h;omega⟩
  | m+1,k=>by
    unfold ny;by_cases hs:s k=true
    ·rw[aE hs];exact⟨an _,by omega,fun j h1 h2=>by omega,fun _=>hs⟩
    ·rw[aB hs];obtain⟨h1,h2,h3,h4⟩:=rO s m (k+1);refine⟨by omega,by omega,fun j h5 h6=>?_,fun h=>h4 (by omega)⟩;by_cases e:j=k
     ·subst e;simpa using hs
     ·exact h3 j (by omega) h6
theorem sW (x:Nat):js l x≤l.length-x:=by
  have:=(rO (gM l x) (l.length-x) 0).2.1
  unfold js;omega
theorem yE (x:Nat) (hx:x<l.length) (h:gU (l.getD x 0)=false):0<js l x:=by
  obtain⟨a1,a2,a3,a4⟩:=rO (gM l x) (l.length-x) 0;have e:ny (gM l x) (l.length-x) 0=js l x:=rfl;rw[e] at a1 a2 a3 a4;refine Nat.pos_of_ne_zero fun h0=>?_
  rw[h0] at a4
  have:=a4 (by omega)
  unfold gM nA at this;rw[Nat.add_zero,h] at this;simp at this
theorem JN (h:gU c=true):gO c=true∨c.toNat=10∨fp c=3:=by
  have:=fm (fun c => !gU c||(gO c||c.toNat==10||fp c==3)) (by decide +kernel) c
  simpa [h,or_assoc] using this
theorem oE (x:Nat) (hx:x<l.length):(fD l x).fr=x∧x<(fD l x).to∧(fD l x).to≤l.length∧1≤(fD l x).kd∧(fD l x).kd≤6:=by
  unfold fD;split
  ·rename_i h;have h1:=(rV l x hx).2 h;have h2:=mO l _ x rfl (by omega);exact⟨rfl,h1,h2.2,(by decide:1≤1),(by decide:1≤6)⟩
  ·rename_i h;split
   ·exact⟨rfl,dj _,hx,(by decide:1≤2),(by decide:2≤6)⟩
   ·rename_i h10;split
    ·rename_i h35;have h1:=mF l x (by omega);refine⟨rfl,?_,h1.2,(by decide:1≤3),(by decide:3≤6)⟩;show x<fM l x
     have:((l.drop x).takeWhile fun c=>c.toNat != 10).length≠0:=by
       rw[cU hx,dy,aE]
       ·simp
       ·rw[aF,ax hx] at h35;have h35:(l[x]).toNat=35:=h35;rw[h35];rfl
     unfold fM;omega
    ·split
     ·rename_i hop;refine⟨rfl,?_,?_,(by decide:1≤4),(by decide:4≤6)⟩
      ·show x<x+_;omega
      ·show x+(fj l x).2≤l.length
       have:∀(d:List UInt8) (n:Nat),(si d n).2≤n:=by
         intro d n
         induction n with
         | zero=>exact an _
         | succ n ih=>unfold si;split;exact an _;omega
       unfold fj;split
       ·simp;omega
       ·have:=this (l.drop x) (min 3 (l.length-x));omega
     ·rename_i hop;split
      ·rename_i hn;unfold mC at hn;simp at hn;exact⟨rfl,by show x<x+_;omega,by show x+_≤_;omega,(by decide:1≤5),(by decide:5≤6)⟩
      ·rename_i hn;have he:gU (l.getD x 0)=false:=by
         cases h2:gU (l.getD x 0)
         ·rfl
         ·exfalso;rcases JN _ h2 with h3|h3|h3
          ·exact h (.inl h3)
          ·exact h10 h3
          ·exact hop ((oH l x hx).2.2.2 h3)
       have h1:=yE l x hx he;have h2:=sW l x;exact⟨rfl,by show x<x+_;omega,by show x+_≤_;omega,(by decide:1≤6),(by decide:6≤6)⟩
theorem JY (x:Nat) (hx:x<l.length) (X:Lx) (d:Dl) (r:List Dl):(og l x X d r).1.fr=x∧x<(og l x X d r).1.to∧(og l x X d r).1.to≤l.length∧(og l x X d r).1.kd=7:=by
  have h:=qQ l d.1 d.2 _ x rfl hx;unfold og;split
  ·exact⟨rfl,h.1,h.2.1,rfl⟩
  ·exact⟨rfl,h.1,h.2.1,rfl⟩
theorem iu (x:Nat) (hx:x<l.length) (X:Lx):(eJ l x X).1.fr=x∧x<(eJ l x X).1.to∧(eJ l x X).1.to≤l.length∧1≤(eJ l x X).1.kd∧(eJ l x X).1.kd≤7:=by
  have hp:=oE l x hx;unfold eJ;split
  ·rename_i d r _ _
   have:=JY l x hx X d r
   exact⟨this.1,this.2.1,this.2.2.1,by omega,by omega⟩
  ·exact⟨hp.1,hp.2.1,hp.2.2.1,hp.2.2.2.1,by have:=hp.2.2.2.2;show (fD l x).kd≤7;omega⟩
theorem vD (l:List UInt8):∀(m m' x:Nat) (X:Lx),l.length<m+x→l.length<m'+x→oY l m x X=oY l m' x X
  | 0,m',x,X,h,h'=>by
    cases m' with
    | zero=>rfl
    | succ m'=>unfold oY;rw[aB (by omega)]
  | m+1,0,x,X,h,h'=>by unfold oY;rw[aB (by omega)]
  | m+1,m'+1,x,X,h,h'=>by
    unfold oY;by_cases hx:x<l.length
    ·have:=iu l x hx X
     rw[aE hx,aE hx,vD l m m' _ _ (by omega) (by omega)]
    ·rw[aB hx,aB hx]
def uQ (l:List UInt8) (x:Nat) (X:Lx):List Tk×Lx:=oY l (l.length+1-x) x X
theorem wN (x:Nat) (X:Lx):uQ l x X=if x<l.length then ((eJ l x X).1::(uQ l (eJ l x X).1.to (eJ l x X).2).1,(uQ l (eJ l x X).1.to (eJ l x X).2).2) else ([],X):=by
  unfold uQ;by_cases hx:x<l.length
  ·obtain⟨m,hm⟩:∃m,l.length+1-x=m+1:=⟨l.length-x,by omega⟩
   have:=iu l x hx X
   rw[hm];show (if x<l.length then _ else _)=_;rw[aE hx,aE hx,vD l m (l.length+1-(eJ l x X).1.to) (eJ l x X).1.to (eJ l x X).2 (by omega) (by omega)]
  ·rw[aB hx];by_cases h0:l.length+1-x=0
   ·rw[h0];rfl
   ·obtain⟨m,hm⟩:∃m,l.length+1-x=m+1:=⟨l.length+1-x-1,by omega⟩;rw[hm];show (if x<l.length then _ else _)=_;rw[aB hx]
structure Tl (l l':List UInt8) (x x':Nat):Prop where
  h:x≤l.length
  h':x'≤l'.length
  e:l.drop x=l'.drop x'
theorem Tl.len {l:List UInt8} (a:Tl l l' x x'):l.length-x=l'.length-x':=by
  have:=congrArg List.length a.e
  simpa using this
theorem Tl.next {l:List UInt8} (a:Tl l l' x x') {k:Nat} (hk:x+k≤l.length):Tl l l' (x+k) (x'+k):=
  ⟨hk,by have:=a.len;have:=a.h';omega,by rw[←List.drop_drop,←List.drop_drop,a.e]⟩
theorem Tl.get {l:List UInt8} (a:Tl l l' x x') (k:Nat):l'.getD (x'+k) 0=l.getD (x+k) 0:=by rw[←lh,←lh,a.e]
theorem Tl.get0 {l:List UInt8} (a:Tl l l' x x'):l'.getD x' 0=l.getD x 0:=a.get 0
theorem Tl.lt {l:List UInt8} (a:Tl l l' x x'):x<l.length↔x'<l'.length:=by have:=a.len;have:=a.h;have:=a.h';omega
theorem Tl.span {l:List UInt8} (a:Tl l l' x x') (p:UInt8→Bool):fC p l' x'=fC p l x:=by unfold fC;rw[a.e]
theorem Tl.sub {l:List UInt8} (a:Tl l l' x x') (n:Nat):sub l' x' (x'+n)=sub l x (x+n):=by rw[kY _ _ _ a.h',kY _ _ _ a.h,a.e]
theorem Tl.line {l:List UInt8} (a:Tl l l' x x'):∃n,fM l x=x+n∧fM l' x'=x'+n:=
  ⟨_,jH l x,by rw[jH,a.span]⟩
theorem Tl.lineE {l:List UInt8} (a:Tl l l' x x'):∃n,lineE l x=x+n∧lineE l' x'=x'+n:=by
  obtain⟨n,h1,h2⟩:=a.line;have h3:=a.len;have h4:=a.h;have h5:=a.h';unfold Go.Proofs.YtcagfamdoaoimaaGreatDoor.lineE;rw[h1,h2];by_cases h:x+n<l.length
  ·rw[aE h,aE (by omega)];exact⟨n+1,rfl,rfl⟩
  ·rw[aB h,aB (by omega)];exact⟨n,rfl,rfl⟩
theorem Tl.here {l:List UInt8}:∀(m x x':Nat),l.length-x=m→Tl l l' x x'→∃n,(fJ l x w t).1=x+n∧(fJ l' x' w t).1=x'+n∧(fJ l' x' w t).2=(fJ l x w t).2:=by
  intro m
  induction m using Nat.strongRecOn with
  | _ m ih=>
    intro x x' hm a;rw[gI l x,gI l' x'];by_cases hx:x<l.length
    ·rw[aE hx,aE (a.lt.1 hx)];obtain⟨n,h1,h2⟩:=a.line;obtain⟨e,e1,e2⟩:=a.lineE;have hs:=a.sub n;rw[←h1,←h2] at hs;rw[hs];by_cases hw:jC t (Go.Proofs.YtcagfamdoaoimaaGreatDoor.sub l x (fM l x))=w
     ·rw[aE hw,aE hw];exact⟨e,e1,e2,rfl⟩
     ·rw[aB hw,aB hw];have hle:=mG l x hx;obtain⟨k,k1,k2,k3⟩:=ih (l.length-Go.Proofs.YtcagfamdoaoimaaGreatDoor.lineE l x) (by omega) (Go.Proofs.YtcagfamdoaoimaaGreatDoor.lineE l x) (Go.Proofs.YtcagfamdoaoimaaGreatDoor.lineE l' x') rfl (by rw[e1,e2];exact a.next (by omega));exact⟨e+k,by omega,by omega,k3⟩
    ·rw[aB hx,aB (fun h=>hx (a.lt.2 h))];exact⟨0,rfl,rfl,rfl⟩
theorem Tl.op {l:List UInt8} (a:Tl l l' x x'):fj l' x'=fj l x:=by
  unfold fj;rw[a.get0,a.e,a.len]
def AE (l:List UInt8):Nat→Nat→Lx→List (Tk×Lx)
  | 0,_,_=>[]
  | m+1,x,X=>if x<l.length then ((eJ l x X).1,X)::AE l m (eJ l x X).1.to (eJ l x X).2 else []
theorem vp (l:List UInt8):∀(m m' x:Nat) (X:Lx),l.length<m+x→l.length<m'+x→AE l m x X=AE l m' x X
  | 0,m',x,X,h,h'=>by
    cases m' with
    | zero=>rfl
    | succ m'=>unfold AE;rw[aB (by omega)]
  | m+1,0,x,X,h,h'=>by unfold AE;rw[aB (by omega)]
  | m+1,m'+1,x,X,h,h'=>by
    unfold AE;by_cases hx:x<l.length
    ·have:=iu l x hx X
     rw[aE hx,aE hx,vp l m m' _ _ (by omega) (by omega)]
    ·rw[aB hx,aB hx]
def l6 (l:List UInt8) (x:Nat) (X:Lx):List (Tk×Lx):=AE l (l.length+1-x) x X
theorem oD (x:Nat) (X:Lx):l6 l x X=if x<l.length then ((eJ l x X).1,X)::l6 l (eJ l x X).1.to (eJ l x X).2 else []:=by
  unfold l6;by_cases hx:x<l.length
  ·obtain⟨m,hm⟩:∃m,l.length+1-x=m+1:=⟨l.length-x,by omega⟩
   have:=iu l x hx X
   rw[hm];show (if x<l.length then _ else _)=_;rw[aE hx,aE hx,vp l m (l.length+1-(eJ l x X).1.to) (eJ l x X).1.to (eJ l x X).2 (by omega) (by omega)]
  ·rw[aB hx];by_cases h0:l.length+1-x=0
   ·rw[h0];rfl
   ·obtain⟨m,hm⟩:∃m,l.length+1-x=m+1:=⟨l.length+1-x-1,by omega⟩;rw[hm];show (if x<l.length then _ else _)=_;rw[aB hx]
theorem Jb {P:Nat→Lx→Prop} (h0:∀x X,¬x<l.length→P x X) (h1:∀x X,x<l.length→P (eJ l x X).1.to (eJ l x X).2→P x X):∀x X,P x X:=by
  suffices h:∀m x X,l.length-x=m→P x X from fun x X=>h _ x X rfl
  intro m
  induction m using Nat.strongRecOn with
  | _ m ih=>
    intro x X hm;by_cases hx:x<l.length
    ·have:=iu l x hx X
     exact h1 x X hx (ih _ (by omega) _ _ rfl)
    ·exact h0 x X hx
def BO (l:List UInt8):Nat→Nat→Lx→Nat×Lx
  | 0,x,X=>(x,X)
  | k+1,x,X=>if x<l.length then BO l k (eJ l x X).1.to (eJ l x X).2 else (x,X)
theorem vm (l:List UInt8):∀k x X,l6 l x X=(l6 l x X).take k++l6 l (BO l k x X).1 (BO l k x X).2∧(uQ l x X).2=(uQ l (BO l k x X).1 (BO l k x X).2).2
  | 0,x,X=>⟨by simp[BO],rfl⟩
  | k+1,x,X=>by
    unfold BO;by_cases hx:x<l.length
    ·rw[aE hx];obtain⟨h1,h2⟩:=vm l k (eJ l x X).1.to (eJ l x X).2;rw[oD l x X,aE hx,wN l x X,aE hx,cG,bv,←h1];exact⟨rfl,h2⟩
    ·rw[aB hx,oD l x X,aB hx];exact⟨by simp,rfl⟩
theorem yl (x:Nat) (X:Lx) (h:k≤(l6 l x X).length):(l6 l x X).drop k=l6 l (BO l k x X).1 (BO l k x X).2:=by
  have h1:=(vm l k x X).1;have h2:=dm k (l6 l x X);exact List.append_cancel_left (h2.trans h1)
theorem Jc {l:List UInt8} {k:Nat} {X:Lx} {p:Tk×Lx} (h:(l6 l x X)[k]? = some p):(BO l k x X).1<l.length∧p=((eJ l (BO l k x X).1 (BO l k x X).2).1,(BO l k x X).2):=by
  have hk:k<(l6 l x X).length:=(aC.1 h).1;have h1:=yl l k x X (by omega);have h2:((l6 l x X).drop k)[0]? = some p:=by rw[bZ];exact h
  rw[h1,oD] at h2;by_cases hx:(BO l k x X).1<l.length
  ·rw[aE hx] at h2;injection h2 with h2
   exact⟨hx,h2.symm⟩
  ·rw[aB hx] at h2;cases h2
theorem sJ:∀x X,∀p∈l6 l x X,x≤p.1.fr∧p.1.fr<p.1.to∧p.1.to≤l.length:=
  Jb l (fun x X h p hp=>by rw[oD,aB h] at hp;cases hp) (fun x X h ih p hp=>by
    have hto:=iu l x h X;rw[oD,aE h] at hp;rcases bR.1 hp with rfl|hp
    ·exact⟨by show x≤(eJ l x X).1.fr;omega,by show (eJ l x X).1.fr<(eJ l x X).1.to;omega,hto.2.2.1⟩
    ·have:=ih p hp
     exact⟨by omega,this.2⟩)
theorem yj {l:List UInt8} {X:Lx} {p q:Tk×Lx} (hi:(l6 l x X)[i]? = some p) (hj:(l6 l x X)[j]? = some q) (hij:i<j):p.1.to≤q.1.fr:=by
  have hi2:=Jc hi;have hil:i<(l6 l x X).length:=(aC.1 hi).1;have h1:=yl l i x X (by omega);have h2:((l6 l x X).drop i)[j-i]? = some q:=by rw[bZ,show i+(j-i)=j by omega];exact hj
  rw[h1,oD,aE hi2.1,show j-i=(j-i-1)+1 by omega,cI] at h2
  have:=(sJ l _ _ q (aW h2)).1
  rw[hi2.2];exact this
theorem Ld {l:List UInt8} {X:Lx} {p q:Tk×Lx} (hi:(l6 l x X)[i]? = some p) (hj:(l6 l x X)[j]? = some q) (h:p.1.fr≤q.1.fr):i≤j:=by
  have h1:=sJ l _ _ p (aW hi);refine Nat.le_of_not_lt fun h3=>?_
  have h2:=sJ l _ _ q (aW hj)
  have:=yj hj hi h3
  omega
structure Ed where
  a:List UInt8
  d:List UInt8
  i:List UInt8
  c:List UInt8
def Ed.old (e:Ed):List UInt8:=e.a++(e.d++e.c)
def Ed.new (e:Ed):List UInt8:=e.a++(e.i++e.c)
abbrev Ja (l:List UInt8):List (Tk×Lx):=l6 l 0 xk
structure Mt (e:Ed) (i j:Nat):Prop where
  w:∃p q,(Ja e.old)[i]? = some p∧(Ja e.new)[j]? = some q∧e.a.length+e.d.length≤p.1.fr∧q.1.fr=p.1.fr-e.d.length+e.i.length∧p.2=q.2
theorem Mt.mono {e:Ed} (h:Mt e i j) (h':Mt e i' j') (hj:j≤j'):i≤i':=by
  obtain⟨p,q,h1,h2,h3,h4,h5⟩:=h.w;obtain⟨p',q',g1,g2,g3,g4,g5⟩:=h'.w;refine Ld h1 g1 ?_;rcases Nat.eq_or_lt_of_le hj with rfl|hj
  ·rw[h2] at g2;injection g2 with g2
   rw[g2] at h4;omega
  ·have:=yj h2 g2 hj
   have:=sJ e.new _ _ q (aW h2)
   omega
structure KL (e:Ed) (T:Nat):Prop where
  w:(T=0∧∀i j,¬Mt e i j)∨∃i j,Mt e i j∧(∀i' j',Mt e i' j'→i≤i')∧T=(Ja e.old).length-i
theorem KL.some {e:Ed} (hm:Mt e i j) (h:∀j',j'<j→∀i',¬Mt e i' j'):KL e ((Ja e.old).length-i):=
  ⟨.inr ⟨i,j,hm,fun i' j' hm'=>hm.mono hm' (Nat.le_of_not_lt fun hj=>h j' hj i' hm'),rfl⟩⟩
def sc (l:List UInt8):List Tk→Nat→Prop
  | [],x=>x=l.length
  | t::r,x=>t.fr=x∧x<t.to∧t.to≤l.length∧1≤t.kd∧t.kd≤7∧sc l r t.to
theorem uW (l:List UInt8):∀(m x:Nat) (X:Lx),x≤l.length→l.length<m+x→sc l (oY l m x X).1 x
  | 0,x,X,h1,h2=>by omega
  | m+1,x,X,h1,h2=>by
    unfold oY;by_cases hx:x<l.length
    ·obtain⟨a,b,c,d,e⟩:=iu l x hx X;rw[aE hx];exact⟨a,b,c,d,e,uW l m _ _ c (by omega)⟩
    ·rw[aB hx];show x=l.length;omega
theorem ox:sc l (iR l).1 0:=uW l _ 0 xk (bK _) (by omega)
theorem BN {l:List UInt8}:∀{ts:List Tk} {x:Nat} (_:sc l ts x) (i:Nat) (t:Tk),ts[i]? = some t→x≤t.fr∧t.fr<t.to∧t.to≤l.length∧1≤t.kd∧t.kd≤7
  | [],x,h,i,t,hi=>by simp at hi
  | a::r,x,⟨h1,h2,h3,h4,h5,h6⟩,0,t,hi=>by
    simp at hi;subst hi;omega
  | a::r,x,⟨h1,h2,h3,h4,h5,h6⟩,i+1,t,hi=>by
    have:=BN h6 i t (by simpa using hi)
    omega
theorem xF {l:List UInt8}:∀{ts:List Tk} {x:Nat} (_:sc l ts x),ts.length+x≤l.length
  | [],x,h=>by have h:x=l.length:=h;simp;omega
  | a::r,x,⟨h1,h2,h3,h4,h5,h6⟩=>by
    have:=xF h6
    simp;omega
theorem nS:(iR l).1.length≤l.length:=by have:=xF (ox l);omega
end Go.Proofs.YtcagfamdoaoimaaGreatDoor
