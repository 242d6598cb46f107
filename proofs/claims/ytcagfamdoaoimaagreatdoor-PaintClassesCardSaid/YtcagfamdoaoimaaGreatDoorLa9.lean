/- Each part by the frames that make it: from where to where it goes. No program is in sight. -/
import Derived.Test.YtcagfamdoaoimaaGreatDoorPl6
import Derived.Test.YtcagfamdoaoimaaGreatDoorCls
set_option linter.unusedVariables false
set_option linter.unusedSimpArgs false
set_option maxRecDepth 100000
set_option maxHeartbeats 8000000
namespace Go.Proofs.YtcagfamdoaoimaaGreatDoor
def kI (l:List UInt8) (f k:Nat):Prop:=(f:Int)∈eR (FT l k)
theorem Ih {l:List UInt8} {f k:Nat} (h:kI l f k):f<k:=by have:=(pa l k).2 _ h;omega
theorem Bu {l:List UInt8} {f k:Nat} (h:kI l f (k+1)) (hk:k≠f):kI l f k:=by
  obtain⟨j,A,B,hF,hj,hA,hB⟩:=mX l k;unfold kI at h;rw[hF,eR,cm] at h;rcases bC.1 h with h|h
  ·have h':(f:Int)∈eR A:=h;rw[hA] at h';exact cJ h'
  ·rcases hB with rfl|⟨c,rfl⟩
   ·cases h
   ·simp at h;omega
theorem Bt {l:List UInt8} {f k:Nat} (h:kI l f k):∀j,f<j→j≤k→kI l f j:=by
  induction k with
  | zero=>intro j h1 h2;have:=Ih h;omega
  | succ k ih=>
    intro j h1 h2;by_cases e:j=k+1
    ·subst e;exact h
    ·exact ih (Bu h (by omega)) j h1 (by omega)
theorem F3 {l:List UInt8} {f:Nat} (h:kI l f (f+1)):∃A c,FT l (f+1)=A++[(c,(f:Int))]∧∀p∈eR A,p∈eR (FT l f):=by
  obtain⟨j,A,B,hF,hj,hA,hB⟩:=mX l f;have hs:∀p∈eR A,p∈eR (FT l f):=fun p hp=>by rw[hA] at hp;exact cJ hp
  rcases hB with rfl|⟨c,rfl⟩
  ·unfold kI at h;rw[hF,bG] at h
   have:=(pa l f).2 _ (hs _ h)
   omega
  ·exact⟨A,c,hF,hs⟩
theorem Bm (c:UInt8):tj c=12↔c.toNat=76:=by
  have:=fh (fun c=>decide (tj c=12)==decide (c.toNat=76)) (by decide +kernel) c
  simpa using this
theorem Cv {l:List UInt8} {f k:Nat} {c:UInt8} (h:(c,(f:Int))∈FT l k) (hc:c.toNat=76):k=f+1∧∃d p r,(fZ l k).1=(76,(f:Int))::(d,p)::r:=by
  have hm:(c,(f:Int))∈(fZ l k).1:=by rw[jF];exact List.mem_append_left _ (by simpa [FT] using h)
  rcases Ku l k with h1|⟨d,q,r,he,h1,_,_⟩
  ·exact absurd hc (h1 _ hm)
  ·rw[he] at hm;rcases bP.1 hm with hm|hm
   ·simp only[Prod.mk.injEq] at hm;exact⟨by omega,d,q,r,by rw[he,hm.2]⟩
   ·exact absurd hc (h1 _ hm)
theorem rG (F:Nat→ff) (fr:Int) (n:Nat):∀(m k:Nat) (q:eV),q.op=true →
    (iX F fr n m k q).fr=q.fr∧(iX F fr n m k q).up=q.up ∧
    (((iX F fr n m k q).op=true∧(iX F fr n m k q).to=q.to∧(∀j,k≤j→j<k+m→fr∈eR (F j)))∨((iX F fr n m k q).op=false∧∃e:Nat,k≤e∧e<k+m∧(iX F fr n m k q).to=e∧fr∉eR (F e)∧∀j,k≤j→j<e→fr∈eR (F j))) ∧
    (((iX F fr n m k q).mode=q.mode∧(fr∉eR (F k)∨m=0))∨∃e,k≤e∧e<k+m∧fr∈eR (F e)∧(iX F fr n m k q).mode=tj ((F e).getD (n-1) (0,0)).1)
  | 0,k,q,ho=>⟨rfl,rfl,.inl ⟨ho,rfl,fun j _ _=>by omega⟩,.inl ⟨rfl,.inr rfl⟩⟩
  | m+1,k,q,ho=>by
    unfold iX;by_cases hm:fr∈eR (F k)
    ·rw[aB (fun h=>kC.1 h hm)];obtain⟨h1,h2,h3,h4⟩:=rG F fr n m (k+1) {q with mode:=tj ((F k).getD (n-1) (0,0)).1} ho;refine⟨h1,h2,?_,.inr ?_⟩
     ·rcases h3 with ⟨h3,h5,h6⟩|⟨h3,e,h5,h6,h7,h8,h9⟩
      ·refine .inl ⟨h3,h5,fun j hj hj2=>?_⟩;by_cases e:j=k
       ·subst e;exact hm
       ·exact h6 j (by omega) (by omega)
      ·refine .inr ⟨h3,e,by omega,by omega,h7,h8,fun j hj hj2=>?_⟩;by_cases e:j=k
       ·subst e;exact hm
       ·exact h9 j (by omega) (by omega)
     ·rcases h4 with ⟨h4,_⟩|⟨e,h5,h6,h7,h8⟩
      ·exact⟨k,au _,by omega,hm,h4⟩
      ·exact⟨e,by omega,by omega,h7,h8⟩
    ·rw[aC (kC.2 hm)];exact⟨rfl,rfl,.inr ⟨rfl,k,au _,by omega,rfl,hm,fun j _ _=>by omega⟩,.inl ⟨rfl,.inl hm⟩⟩
structure PI (l:List UInt8) (q:eV) (f:Nat):Prop where
  fr:q.fr=f
  lt:f<l.length
  al:kI l f (f+1)
  up:q.up=DW (FT l (f+1)) (eK l f)
  kind:(q.mode≠12∧((q.op=true∧q.to=l.length∧∀j,f<j→j≤l.length→kI l f j)∨(q.op=false∧∃e:Nat,f+1<e∧e≤l.length∧q.to=e∧¬kI l f e∧∀j,f<j→j<e→kI l f j))∧∀c:UInt8,(c,(f:Int))∈FT l (f+1)→c.toNat=76→kI l f (f+2)) ∨
    (q.mode=12∧q.op=false∧q.to=f+1+(pM l (f+1):Int)∧(∃d p r,(fZ l (f+1)).1=(76,(f:Int))::(d,p)::r)∧(f+2≤l.length→¬kI l f (f+2)))
theorem MQ {l:List UInt8} {f:Nat} (hf:f<l.length) {q:eV} (hq:q∈nm (FT l (f+1)) f (eK l f)):PI l (og l (mC l (l.length-(f+1)) (f+2) q)) f:=by
  have hal:kI l f (f+1):=by
    refine dv fun h=>?_
    rw[oP (fun p hp e=>h (by unfold kI;rw[←e];exact hp))] at hq
    cases hq
  obtain⟨A,c,hF,hs⟩:=F3 hal;rw[oO hF] at hq;simp only[List.mem_singleton] at hq;have h0:(eR (FT l (f+1)))[A.length]? = some (f:Int):=by rw[hF];simp[eR]
  have hop:q.op=true:=by rw[hq]
  have hfr:q.fr=f:=by rw[hq]
  have hup:q.up=DW (FT l (f+1)) (eK l f):=by rw[hq]
  have hmd:q.mode=tj c:=by rw[hq]
  have hse:=oE l f (A.length+1) (fun k hk hm=>lq l f A.length h0 k hk hm) (l.length-(f+1)) (f+2) q hop hfr (by omega);obtain⟨s1,s2,s3,s4⟩:=rG (FT l) f (A.length+1) (l.length-(f+1)) (f+2) {q with to:=l.length} hop;unfold og;rw[←hse];generalize iX (FT l) f (A.length+1) (l.length-(f+1)) (f+2) {q with to:=l.length}=r at *;have r1:r.fr=f:=s1.trans hfr;have r2:r.up=DW (FT l (f+1)) (eK l f):=s2.trans hup;by_cases hm:r.mode=12
  ·have e:om l r={r with to:=r.fr+1+(pM l (r.fr+1).toNat:Int),op:=false}:=by unfold om;rw[aC hm]
   rw[e];have hx:tj c=12∧((f:Int)∉eR (FT l (f+2))∨l.length-(f+1)=0):=by
     rcases s4 with ⟨s4,s5⟩|⟨e,h1,h2,h3,h4⟩
     ·rw[hm] at s4;exact⟨by rw[←hmd];exact s4.symm,s5⟩
     ·exfalso;rw[hm] at h4;have hc:=(Bm _).1 h4.symm;have h5:=lq l f A.length h0 e (by omega) h3;rw[Nat.add_sub_cancel] at hc;rw[aZ] at h5
      cases hy:(FT l e)[A.length]? with
      | none=>rw[hy] at h5;cases h5
      | some y=>
        rw[hy] at h5;obtain⟨c',p'⟩:=y;simp at h5;subst h5;rw[aE,hy] at hc
        have:=(Cv (aT hy) hc).1
        omega
   have hc:=(Bm c).1 hx.1;refine⟨r1,hf,hal,r2,.inr ⟨hm,rfl,?_,(Cv (c:=c) (by rw[hF];simp) hc).2,?_⟩⟩
   ·show r.fr+1+(pM l (r.fr+1).toNat:Int)=_;rw[r1];rfl
   ·intro h2;rcases hx.2 with h|h
    ·exact h
    ·omega
  ·have e:om l r=r:=by unfold om;rw[aB hm]
   rw[e];refine⟨r1,hf,hal,r2,.inl ⟨hm,?_,?_⟩⟩
   rotate_left
   ·intro c' hc' h76;rcases s4 with ⟨s4,s5⟩|⟨e,h1,h2,h3,h4⟩
    ·exfalso;obtain⟨i,hi⟩:=dw.1 hc';have hi2:(eR (FT l (f+1)))[i]? = some (f:Int):=by rw[aZ,hi];rfl
     have:=rK (rq l (f+1)) hi2 h0
     subst this;rw[hF] at hi;simp at hi;subst hi;exact hm (by rw[s4];show q.mode=12;rw[hmd];exact(Bm _).2 h76)
    ·exact Bt h3 (f+2) (by omega) (by omega)
   rcases s3 with ⟨h1,h2,h3⟩|⟨h1,e,h2,h3,h4,h5,h6⟩
   ·refine .inl ⟨h1,h2,fun j hj hj2=>?_⟩;by_cases e:j=f+1
    ·subst e;exact hal
    ·exact h3 j (by omega) (by omega)
   ·refine .inr ⟨h1,e,by omega,by omega,h4,h5,fun j hj hj2=>?_⟩;by_cases e:j=f+1
    ·subst e;exact hal
    ·exact h6 j (by omega) (by omega)
theorem AE (l:List UInt8):dQ l=(List.range l.length).flatMap (fun f=>(nm (FT l (f+1)) f (eK l f)).map fun q=>og l (mC l (l.length-(f+1)) (f+2) q)):=by
  rw[←tN];exact(pN l l.length (au _)).1
theorem Dv (l:List UInt8):ij (dQ l)=ij (eK l l.length):=by
  unfold dQ;simp only[ij,List.map_map];exact cH fun q _=>Cr l q
theorem AD (l:List UInt8):(ij (dQ l)).Pairwise (· < ·):=by rw[Dv];exact(mV l l.length).rise
theorem MO {l:List UInt8} {q:eV} {f:Nat} (hq:PI l q f):(f:Int)<q.to∧q.to≤(l.length:Int):=by
  have hfl:=hq.lt;rcases hq.kind with ⟨_,h,_⟩|⟨_,_,h,_,_⟩
  ·rcases h with ⟨_,h,_⟩|⟨_,e,h1,h2,h3,_⟩
   ·rw[h];omega
   ·rw[h3];omega
  ·have:=wC l (f+1)
   rw[h];omega
theorem IV {L:List eV} (hr:(ij L).Pairwise (· < ·)) {i k:Nat} {p q:eV} (hi:L[i]? = some p) (hk:L[k]? = some q):k<i↔q.fr<p.fr:=by
  obtain⟨h1,h2⟩:=az.1 hi;obtain⟨h3,h4⟩:=az.1 hk;have hp:=dc.1 hr;have g1:(ij L)[i]'(by simpa using h1)=p.fr:=by simp[ij,h2]
  have g3:(ij L)[k]'(by simpa using h3)=q.fr:=by simp[ij,h4]
  constructor
  ·intro h
   have:=hp k i (by simpa using h3) (by simpa using h1) h
   rwa [g1,g3] at this
  ·intro h;refine Nat.lt_of_not_le fun hh=>?_
   rcases Nat.lt_or_eq_of_le hh with h5|h5
   ·have:=hp i k (by simpa using h1) (by simpa using h3) h5
    rw[g1,g3] at this;omega
   ·subst h5;rw[hi] at hk;injection hk with hk
    subst hk;omega
theorem getD_some {L:List eV} {k:Nat} {q:eV} (h:L[k]? = some q):L.getD k dP=q:=by rw[aE,h];rfl
theorem L5 (c:UInt8):tj c=13↔c.toNat=88:=by
  have:=fh (fun c=>decide (tj c=13)==decide (c.toNat=88)) (by decide +kernel) c
  simpa using this
def PX (st:ff) (a:Int) (x:ff×Bool):Prop:=∀y∈x.1,y.1=88→y∈st∨y.2=a
theorem PX.same {st:ff} {a:Int} {f:Bool}:PX st a (st,f):=fun y hy _=>.inl hy
theorem PX.tail {st:ff} {a:Int} {f:Bool}:PX st a (st.tail,f):=fun y hy _=>.inl (List.mem_of_mem_tail hy)
theorem PX.push {st:ff} {a:Int} {f:Bool} {c:UInt8}:PX st a ((c,a)::st,f):=fun y hy _=>by
  rcases bP.1 hy with rfl|hy
  ·exact .inr rfl
  ·exact .inl hy
theorem PX.turn {r:ff} {a p:Int} {f:Bool} {c d:UInt8} (hc:c≠88):PX ((d,p)::r) a ((c,p)::r,f):=fun y hy h=>by
  rcases bP.1 hy with rfl|hy
  ·exact absurd h hc
  ·exact .inl (cw _ hy)
theorem PX.deep {r:ff} {a:Int} {y:UInt8×Int} {x:ff×Bool} (h:PX r a x):PX (y::r) a x:=fun z hz e=>by
  rcases h z hz e with h1|h1
  ·exact .inl (cw _ h1)
  ·exact .inr h1
theorem PX.other {r:ff} {a p:Int} {c d:UInt8} {x:ff×Bool} (hc:c≠88) (h:PX ((c,p)::r) a x):PX ((d,p)::r) a x:=fun z hz e=>by
  rcases h z hz e with h1|h1
  ·rcases bP.1 h1 with rfl|h1
   ·exact absurd e hc
   ·exact .inl (cw _ h1)
  ·exact .inr h1
theorem oI (st:ff) (f:Bool) (c b:UInt8) (a:Int):PX st a (dK st f c b a):=by
  unfold dK
  repeat' (refine ei (PX st a) (fun _=>?_) (fun _=>?_))
  all_goals first
    | exact rProgram_px _ _ _ _ _
    | exact PX.push
    | exact PX.tail
    | exact PX.same
    | (cases st with
       | nil=>exact PX.same
       | cons y r=>exact PX.turn (by decide))
theorem ES (st:ff) (f:Bool) (b:UInt8) (a:Int):PX st a (ez st f b a):=by
  match st with
  | []=>exact PX.same
  | (c,p)::r=>
    unfold ez;refine ei (PX ((c,p)::r) a) (fun _=>?_) (fun _=>?_)
    ·refine ei (PX ((c,p)::r) a) (fun _=>PX.turn (by decide)) (fun _=>?_);refine ei (PX ((c,p)::r) a) (fun _=>?_) (fun _=>?_)
     ·cases r with
      | nil=>exact PX.turn (by decide)
      | cons y r=>exact ei (PX ((c,p)::y::r) a) (fun _=>PX.turn (by decide)) (fun _=>PX.turn (by decide))
     ·refine ei (PX ((c,p)::r) a) (fun _=>PX.same.deep) (fun _=>?_)
      cases r with
      | nil=>exact PX.same.deep
      | cons y r=>exact(oI _ _ _ _ _).deep
    ·refine ei (PX ((c,p)::r) a) (fun _=>?_) (fun _=>?_)
     ·exact ei (PX ((c,p)::r) a) (fun _=>PX.turn (by decide)) (fun _=>(oI _ _ _ _ _).other (by decide))
     ·refine ei (PX ((c,p)::r) a) (fun _=>?_) (fun _=>oI _ _ _ _ _);exact ei (PX ((c,p)::r) a) (fun _=>PX.same.deep) (fun _=>(oI _ _ _ _ _).other (by decide))
theorem Dz {l:List UInt8} {f k:Nat} {c:UInt8} (hk:f+2≤k) (h:(c,(f:Int))∈FT l k):c.toNat≠88:=by
  intro hc;obtain rfl:c=88:=cQ.1 hc;obtain⟨k,rfl⟩:∃k',k=k'+1:=⟨k-1,by omega⟩;have hm:((88:UInt8),(f:Int))∈(fZ l (k+1)).1:=by rw[jF];exact List.mem_append_left _ (by simpa [FT] using h)
  have hs:(fZ l (k+1)).1=(ez (fZ l k).1 (fZ l k).2 (l.getD k 0) k).1:=rfl;rcases ES (fZ l k).1 (fZ l k).2 (l.getD k 0) k _ (by rw[←hs];exact hm) rfl with h1|h1
  ·have hv:=sr l k;have hx:=jF l k;have hnd:(eR (XT l k)).Nodup:=by rw[cW];exact(xe l k).1.imp (fun h=>by omega)
   cases hst:(fZ l k).1 with
   | nil=>rw[hst] at h1;cases h1
   | cons y r=>
     obtain⟨d,p⟩:=y;rw[hst] at h1 hv;rcases bP.1 h1 with h2|h2
     ·simp only[Prod.mk.injEq] at h2;obtain⟨rfl,rfl⟩:=h2;have e:(ez (fZ l k).1 (fZ l k).2 (l.getD k 0) k).1=r:=by rw[hst];unfold ez dK;simp
      rw[hs,e] at hm;have hX:((88:UInt8),(f:Int))∈XT l k:=by
        have:((88:UInt8),(f:Int))∈(fZ l k).1:=by rw[hst];exact dh
        rw[hx] at this;rcases bC.1 this with h3|h3
        ·exact h3
        ·simp at h3
      cases hXT:XT l k with
      | nil=>rw[hXT] at hX;cases hX
      | cons z Z=>
        rw[hXT] at hx hnd;rw[hst,bJ] at hx;injection hx with hz hr
        subst hz;rw[hr] at hm;simp only[eR,bX,List.nodup_cons] at hnd;rcases bC.1 hm with h3|h3
        ·exact hnd.1 (cE.2 ⟨_,h3,rfl⟩)
        ·simp at h3
     ·have:=hv.2 _ h2
      exact absurd (show zD 88=true from this) (by decide)
  ·simp at h1;omega
theorem mK {l:List UInt8} {q:eV} (h:q∈dQ l):∃f t:Nat,q.fr=f∧q.to=t∧f<t∧t≤l.length∧(q.mode≠12→q.op=false→f+2≤t)∧(q.op=true→t=l.length)∧(q.mode=13→t≤f+2):=by
  have h0:=h;rw[AE] at h;obtain⟨f,hf,hq⟩:=List.mem_flatMap.1 h;have hf:=cR.1 hf;obtain⟨q0,hq0,rfl⟩:=cE.1 hq;have hp:=MQ hf hq0;have hto:=MO hp;obtain⟨t,ht⟩:∃t:Nat,(og l (mC l (l.length-(f+1)) (f+2) q0)).to=t:=⟨_,(Int.toNat_of_nonneg (by omega)).symm⟩;refine⟨f,t,hp.fr,ht,by omega,by omega,?_,?_,?_⟩
  ·intro h12 hop;rcases hp.kind with ⟨_,h1|⟨_,e,h2,h3,h4,_⟩,_⟩|h1
   ·rw[h1.1] at hop;cases hop
   ·omega
   ·exact absurd h1.1 h12
  ·intro hop;rcases hp.kind with ⟨_,h1|⟨h2,_⟩,_⟩|h1
   ·have:=h1.2.1;omega
   ·rw[hop] at h2;cases h2
   ·rw[h1.2.1] at hop;cases hop
  ·intro h13;have hgone:¬kI l f (f+2)∨l.length≤f+1:=by
     have hal:=hp.al;obtain⟨A,c,hF,hs⟩:=F3 hal;rw[oO hF] at hq0;simp only[List.mem_singleton] at hq0;have i0:(eR (FT l (f+1)))[A.length]? = some (f:Int):=by rw[hF];simp[eR]
     have hop:q0.op=true:=by rw[hq0]
     have hfr:q0.fr=f:=by rw[hq0]
     have hse:=oE l f (A.length+1) (fun k hk hm=>lq l f A.length i0 k hk hm) (l.length-(f+1)) (f+2) q0 hop hfr (by omega);obtain⟨s1,s2,s3,s4⟩:=rG (FT l) f (A.length+1) (l.length-(f+1)) (f+2) {q0 with to:=l.length} hop;rw[show og l (mC l (l.length-(f+1)) (f+2) q0)=om l (lI l.length (mC l (l.length-(f+1)) (f+2) q0)) from rfl,←hse] at h13;generalize iX (FT l) f (A.length+1) (l.length-(f+1)) (f+2) {q0 with to:=l.length}=r at *;have hr:r.mode=13:=by
       unfold om at h13;by_cases h12:r.mode=12
       ·rw[aC h12] at h13
        have:r.mode=13:=h13
        omega
       ·rw[aB h12] at h13;exact h13
     rcases s4 with ⟨_,h5|h5⟩|⟨e,h1,h2,h3,h4⟩
     ·exact .inl h5
     ·exact .inr (by omega)
     ·exfalso;rw[hr] at h4;have hc:=(L5 _).1 h4.symm;have h5:=lq l f A.length i0 e (by omega) h3;rw[Nat.add_sub_cancel] at hc;rw[aZ] at h5
      cases hy:(FT l e)[A.length]? with
      | none=>rw[hy] at h5;cases h5
      | some y=>
        rw[hy] at h5;simp at h5;rw[aE,hy] at hc;exact Dz (c:=y.1) h1 (by rw[←h5];exact aT hy) hc
   rcases hp.kind with ⟨_,⟨h1,h2,h3⟩|⟨_,e,h2,h3,h4,_,h6⟩,_⟩|h1
   ·rcases hgone with hg|hg
    ·have:¬(f+2≤l.length):=fun hh=>hg (h3 (f+2) (by omega) hh)
     omega
    ·omega
   ·rcases hgone with hg|hg
    ·have:¬(f+2<e):=fun hh=>hg (h6 (f+2) (by omega) hh)
     omega
    ·omega
   ·rw[h1.1] at h13;cases h13
structure Pc where
  ex:Bool
  qu:Bool
  tx:List UInt8
variable {a N:Nat} {q:eV} (l:List UInt8) (x:Nat) (P:List Pc) (p:UInt8→Bool) (L:List Pc) (t w d:List UInt8) (c:UInt8) (buf b:List UInt8) (i n k:Nat)
def sub (l:List UInt8) (a b:Nat):List UInt8:=(l.take b).drop a
def gK (L:List eV) (x:Nat):Option eV:=L.find? (fun q=>q.fr==(x:Int))
def ej (q:eV):Nat:=q.to.toNat
def kU (q:eV) (x:Nat):Bool:=decide (q.mode=12∧ej q=x+1)
def ll (q:eV):Nat:=if q.op=true then ej q else ej q-1
def uU (c:UInt8):Bool:=c.toNat==36||c.toNat==96||c.toNat==34||c.toNat==92
def nB (l:List UInt8) (q:eV) (x:Nat):List UInt8:=
  if ej q<x+2 then [] else if uU (l.getD (x+1) 0)=true then [l.getD (x+1) 0] else if (l.getD (x+1) 0).toNat=10 then [] else sub l x (ej q)
def pE (b:List UInt8):List Pc:=if b=[] then [] else [⟨false,false,b⟩]
def Cq (b:List UInt8):List Pc:=if b=[] then [] else [⟨false,true,b⟩]
def jx (l:List UInt8) (L:List eV) (e:Nat):Nat→Nat→List UInt8→Bool→List Pc
  | 0,_,_,_=>[]
  | m+1,x,here,ex=>
    if x<e then
      match gK L x with
      | none=>jx l L e m (x+1) (here++[l.getD x 0]) ex
      | some q=>
        if kU q x=true then jx l L e m (x+1) (here++[l.getD x 0]) ex
        else if q.mode=13 then jx l L e m (ej q) (here++nB l q x) ex
        else Cq here++⟨true,true,sub l x (ej q)⟩::jx l L e m (ej q) [] true
    else if here=[]∧ex=true then [] else [⟨false,true,here⟩]
def iB (l:List UInt8) (L:List eV):Nat→Nat→List UInt8→List Pc
  | 0,_,buf=>pE buf
  | m+1,x,buf=>
    if x<l.length then
      match gK L x with
      | none=>iB l L m (x+1) (buf++[l.getD x 0])
      | some q=>
        if kU q x=true∨q.mode=14 then iB l L m (ej q) (buf++sub l x (ej q))
        else if q.mode=13 then
          (if sub l (x+1) (ej q)=[]∨sub l (x+1) (ej q)=[10] then iB l L m (ej q) buf
           else pE buf++⟨false,true,sub l (x+1) (ej q)⟩::iB l L m (ej q) [])
        else if q.mode=4 then pE buf++⟨false,true,sub l (x+1) (ll q)⟩::iB l L m (ej q) []
        else if q.mode=5 then pE buf++(jx l L (ll q) (l.length+1) (x+1) [] false++iB l L m (ej q) [])
        else pE buf++⟨true,false,sub l x (ej q)⟩::iB l L m (ej q) []
    else pE buf
def lR (l:List UInt8):List Pc:=iB l (dQ l) (l.length+1) 0 []
def tJ (out:List Pc) (t:List UInt8) (fresh:Bool):List Pc:=
  match out.getLast? with
  | some p=>if fresh=false then out.dropLast++[⟨false,false,p.tx++t⟩] else out++[⟨false,false,t⟩]
  | none=>out++[⟨false,false,t⟩]
def rh (l:List UInt8) (L:List eV) (e:Nat):Nat→Nat→List UInt8→List Pc→List Pc
  | 0,_,_,out=>out
  | m+1,x,here,out=>
    if x<e then
      match gK L x with
      | none=>rh l L e m (x+1) (here++sub l x (x+1)) out
      | some q=>
        if kU q x=true then rh l L e m (x+1) (here++sub l x (x+1)) out
        else if q.mode=13 then
          rh l L e m (ej q) (if ej q=x+2 then (if uU (l.getD (x+1) 0)=true then here++sub l (x+1) (x+2) else if (l.getD (x+1) 0).toNat=10 then here else here++sub l x (x+2)) else here) out
        else rh l L e m (ej q) [] ((if here=[] then out else out++[⟨false,true,here⟩])++[⟨true,true,sub l x (ej q)⟩])
    else if here=[]∧out≠[] then out else out++[⟨false,true,here⟩]
def pL (l:List UInt8) (L:List eV):Nat→Nat→List Pc→Bool→List Pc
  | 0,_,out,_=>out
  | m+1,x,out,fresh=>
    if x<l.length then
      match gK L x with
      | none=>pL l L m (x+1) (tJ out (sub l x (x+1)) fresh) false
      | some q=>
        if q.mode=14∨kU q x=true then pL l L m (ej q) (tJ out (sub l x (ej q)) fresh) false
        else if q.mode=13 then
          (if ej q=x+2∧(l.getD (x+1) 0).toNat≠10 then pL l L m (ej q) (out++[⟨false,true,sub l (x+1) (ej q)⟩]) true
           else pL l L m (ej q) out fresh)
        else if q.mode=4 then pL l L m (ej q) (out++[⟨false,true,sub l (x+1) (ll q)⟩]) true
        else if q.mode=5 then pL l L m (ej q) (out++rh l L (ll q) (l.length+1) (x+1) [] []) true
        else pL l L m (ej q) (out++[⟨true,false,sub l x (ej q)⟩]) true
    else out
theorem ql {l:List UInt8} {x:Nat} (h:x<l.length):sub l x (x+1)=[l.getD x 0]:=by
  unfold sub;rw[bz h,List.drop_append_of_le_length (by simp;omega),List.drop_of_length_le (by simp;omega),aE,ax h];rfl
theorem jM {l:List UInt8} {b:Nat} (h:b≤l.length):(sub l a b).length=b-a:=by unfold sub;simp;omega
structure PL (l:List UInt8) (L:List eV):Prop where
  two:∀q∈L,∃f t:Nat,q.fr=f∧q.to=t∧f<t∧t≤l.length∧(q.mode≠12→q.op=false→f+2≤t)∧(q.op=true→t=l.length)∧(q.mode=13→t≤f+2)
theorem ly:PL l (dQ l):=⟨fun q h=>mK h⟩
theorem gx {l:List UInt8} {L:List eV} (hL:PL l L) {x:Nat} (h:gK L x=some q):q∈L∧q.fr=x∧q.to=ej q∧x<ej q∧ej q≤l.length∧(q.mode≠12→q.op=false→x+2≤ej q)∧(q.op=true→ej q=l.length)∧(q.mode=13→ej q≤x+2):=by
  have h1:=List.mem_of_find?_eq_some h;have h2:q.fr=x:=by have:=List.find?_some h;simpa using this
  obtain⟨f,t,a,b,c,d,e,g,i⟩:=hL.two q h1;have e1:ej q=t:=by unfold ej;omega
  have e2:f=x:=by omega
  subst e2;rw[e1];exact⟨h1,h2,b,c,d,e,g,i⟩
theorem lK {l:List UInt8} {L:List eV} (hL:PL l L) (e:Nat) (he:e≤l.length):∀(m x:Nat) (here:List UInt8) (out:List Pc),rh l L e m x here out=out++jx l L e m x here (decide (out≠[]))
  | 0,_,_,out=>by simp[rh,jx]
  | m+1,x,here,out=>by
    unfold rh jx;by_cases hx:x<e
    ·rw[aC hx,aC hx]
     cases hf:gK L x with
     | none=>simp only;rw[ql (by omega)];exact lK hL e he m _ _ _
     | some q=>
       obtain⟨_,hfr,hto,hlt,hle,h2,_,h13⟩:=gx hL hf;simp only;by_cases hlone:kU q x=true
       ·rw[aC hlone,aC hlone,ql (by omega)];exact lK hL e he m _ _ _
       ·rw[aB hlone,aB hlone];by_cases hm:q.mode=13
        ·rw[aC hm,aC hm];have e1:(if ej q=x+2 then (if uU (l.getD (x+1) 0)=true then here++sub l (x+1) (x+2) else if (l.getD (x+1) 0).toNat=10 then here else here++sub l x (x+2)) else here)=here++nB l q x:=by
           unfold nB
           have:=h13 hm
           by_cases h22:ej q=x+2
           ·have e2:sub l (x+1) (x+2)=[l.getD (x+1) 0]:=ql (x:=x+1) (by omega);rw[h22,e2];generalize l.getD (x+1) 0=c;by_cases hb:uU c=true
            ·simp[hb]
            ·by_cases h10:c.toNat=10
             ·simp[hb,h10]
             ·simp[hb,h10]
           ·have h3:ej q<x+2:=by omega
            simp[h22,h3]
         rw[e1];exact lK hL e he m _ _ _
        ·rw[aB hm,aB hm,lK hL e he m];have e1:decide (((if here=[] then out else out++[(⟨false,true,here⟩:Pc)])++[(⟨true,true,sub l x (ej q)⟩:Pc)])≠[])=true:=by simp
         rw[e1];unfold Cq;by_cases hh:here=[]
         ·rw[aC hh,aC hh];simp
         ·rw[aB hh,aB hh];simp
    ·rw[aB hx,aB hx];by_cases hh:here=[]∧out≠[]
     ·rw[aC hh,aC ⟨hh.1,by simpa using hh.2⟩];simp
     ·rw[aB hh,aB (fun h=>hh ⟨h.1,by simpa using h.2⟩)]
theorem Lm (t:List UInt8) (ht:t≠[]):tJ (P++pE buf) t buf.isEmpty=P++pE (buf++t):=by
  unfold pE;rw[aB (show buf++t≠[] by simp[ht])]
  cases buf with
  | nil=>
    unfold tJ;rw[aC rfl,bG]
    cases P.getLast? <;> simp
  | cons b buf=>
    unfold tJ;rw[aB (by simp)];simp
theorem nP {l:List UInt8} {L:List eV} (hL:PL l L):∀(m x:Nat) (P:List Pc) (buf:List UInt8),pL l L m x (P++pE buf) buf.isEmpty=P++iB l L m x buf
  | 0,_,P,buf=>rfl
  | m+1,x,P,buf=>by
    unfold pL iB;by_cases hx:x<l.length
    ·rw[aC hx,aC hx];have hgo:∀(t:List UInt8) (y:Nat),t≠[]→pL l L m y (tJ (P++pE buf) t buf.isEmpty) false=P++iB l L m y (buf++t):=by
       intro t y ht;rw[Lm P buf t ht]
       have:=nP hL m y P (buf++t)
       rwa [show (buf++t).isEmpty=false by cases buf<;>cases t<;>simp_all] at this
     have hnew:∀(Y:List Pc) (y:Nat),pL l L m y (P++pE buf++Y) true=P++(pE buf++(Y++iB l L m y [])):=by
       intro Y y
       have:=nP hL m y (P++pE buf++Y) []
       rw[show pE []=([]:List Pc) from rfl,bG] at this;rw[show ([]:List UInt8).isEmpty=true from rfl] at this;rw[this];simp
     cases hf:gK L x with
     | none=>simp only;rw[ql hx];exact hgo _ _ (by simp)
     | some q=>
       obtain⟨_,hfr,hto,hlt,hle,h2,_,h13⟩:=gx hL hf;have hne:sub l x (ej q)≠[]:=by intro h;have:=jM (a:=x) hle;rw[h] at this;simp at this;omega
       simp only;by_cases hlone:kU q x=true∨q.mode=14
       ·rw[aC hlone.symm,aC hlone];exact hgo _ _ hne
       ·rw[aB (fun h=>hlone h.symm),aB hlone];by_cases hm:q.mode=13
        ·rw[aC hm,aC hm];have h3:=h13 hm;by_cases h22:ej q=x+2
         ·have hs:sub l (x+1) (ej q)=[l.getD (x+1) 0]:=by rw[h22];exact ql (by omega)
          rw[hs];by_cases h10:(l.getD (x+1) 0).toNat=10
          ·rw[aB (by intro h;exact h.2 h10),aC (.inr (by rw[show l.getD (x+1) 0=10 from cQ.1 h10]))];exact nP hL m _ P buf
          ·rw[aC ⟨h22,h10⟩,aB (by rintro (h|h);cases h;injection h with h _;exact h10 (by rw[h];rfl))];exact hnew [_] _
         ·have hs:sub l (x+1) (ej q)=[]:=bB (by rw[jM hle];omega);rw[aB (fun h=>h22 h.1),aC (.inl hs)];exact nP hL m _ P buf
        ·rw[aB hm,aB hm];by_cases h4:q.mode=4
         ·rw[aC h4,aC h4];exact hnew [_] _
         ·rw[aB h4,aB h4];by_cases h5:q.mode=5
          ·rw[aC h5,aC h5,lK hL _ (by unfold ll;split<;>omega)];exact hnew _ _
          ·rw[aB h5,aB h5];exact hnew [_] _
    ·rw[aB hx,aB hx]
theorem Ln:pL l (dQ l) (l.length+1) 0 [] true=lR l:=nP (ly l) (l.length+1) 0 [] []
def qg (L:List Pc):List UInt8:=L.flatMap (·.tx)
theorem tm (x:Pc):qg (L++[x])=qg L++x.tx:=by simp[qg]
theorem sN:∀(L:List Pc) (N:Nat),(∀x∈L,x.tx.length≤N)→(qg L).length≤L.length*N
  | [],_,_=>by simp[qg]
  | x::r,N,h=>by
    have h1:=sN r N (fun y hy=>h y (cw _ hy));have h2:=h x dh;have e:(qg (x::r)).length=x.tx.length+(qg r).length:=by simp[qg]
    rw[e,aQ,Nat.succ_mul];omega
theorem DZ {L:List Pc} {k:Nat} {x:Pc} (h:L[k]? = some x):qg (L.take (k+1))=qg (L.take k)++x.tx:=by
  obtain⟨h1,h2⟩:=az.1 h;rw[bz h1,h2,tm]
theorem DY (N:Nat) (h:∀x∈L,x.tx.length≤N):(qg (L.take k)).length≤L.length*N:=by
  have h1:=sN (L.take k) N (fun x hx=>h x (cJ hx));have h2:(L.take k).length≤L.length:=by simp;omega
  exact aA h1 (cU N h2)
def qN (b:List UInt8):Nat:=if b=[] then 0 else 1
theorem qM:qN b≤1:=by unfold qN;split<;>omega
theorem oW:(pE b).length=qN b:=by unfold pE qN;split<;>rfl
theorem JN:(Cq b).length=qN b:=by unfold Cq qN;split<;>rfl
theorem nu {l:List UInt8} {L:List eV} (hL:PL l L) (e:Nat):∀(m x:Nat) (here:List UInt8) (ex:Bool),(jx l L e m x here ex).length≤2*(e-x)+1+qN here
  | 0,_,_,_=>by simp[jx]
  | m+1,x,here,ex=>by
    unfold jx;by_cases hx:x<e
    ·rw[aC hx]
     cases hf:gK L x with
     | none=>
       have h1:=nu hL e m (x+1) (here++[l.getD x 0]) ex;have h2:=qM (here++[l.getD x 0]);simp only;omega
     | some q=>
       obtain⟨_,hfr,hto,hlt,hle,_⟩:=gx hL hf;simp only;split
       ·have h1:=nu hL e m (x+1) (here++[l.getD x 0]) ex;have h2:=qM (here++[l.getD x 0]);omega
       ·split
        ·have h1:=nu hL e m (ej q) (here++nB l q x) ex;have h2:=qM (here++nB l q x);omega
        ·have h1:=nu hL e m (ej q) [] true;rw[aG,aQ,JN];simp only[qN,bN] at h1 ⊢;omega
    ·rw[aB hx];split
     ·simp
     ·simp only[aQ,bS];omega
theorem nQ {l:List UInt8} {L:List eV} (hL:PL l L):∀(m x:Nat) (buf:List UInt8),(iB l L m x buf).length≤2*(l.length-x)+qN buf
  | 0,_,buf=>by simp[iB,oW]
  | m+1,x,buf=>by
    unfold iB;by_cases hx:x<l.length
    ·rw[aC hx];have hn:∀y,(iB l L m y []).length≤2*(l.length-y):=fun y=>by have:=nQ hL m y [];simpa [qN] using this
     cases hf:gK L x with
     | none=>
       have h1:=nQ hL m (x+1) (buf++[l.getD x 0]);have h2:=qM (buf++[l.getD x 0]);simp only;omega
     | some q=>
       obtain⟨_,hfr,hto,hlt,hle,h2,_⟩:=gx hL hf;have h3:=hn (ej q);simp only;split
       ·have h1:=nQ hL m (ej q) (buf++sub l x (ej q));have h2:=qM (buf++sub l x (ej q));omega
       ·split
        ·split
         ·have h1:=nQ hL m (ej q) buf;omega
         ·rw[aG,aQ,oW];omega
        ·split
         ·rw[aG,aQ,oW];omega
         ·split
          ·rename_i h5;have h4:=nu hL (ll q) (l.length+1) (x+1) [] false;have h6:ll q≤ej q:=by unfold ll;split<;>omega
           simp only[qN,bN] at h4;rw[aG,aG,oW];omega
          ·rw[aG,aQ,oW];omega
    ·rw[aB hx,oW];omega
theorem tK:(lR l).length≤2*l.length:=by
  have:=nQ (ly l) (l.length+1) 0 []
  simpa [qN,lR] using this
theorem iO (a b:Nat):(sub l a b).length≤b-a:=by unfold sub;simp;omega
theorem JU {l:List UInt8} {x:Nat} (h:x<ej q) (h2:ej q≤x+2∨True):(nB l q x).length≤ej q-x:=by
  unfold nB;split
  ·simp
  ·split
   ·simp;omega
   ·split
    ·simp
    ·exact iO _ _ _
theorem wP {b:List UInt8} (h:b.length≤N):∀p∈pE b,p.tx.length≤N:=by
  intro p hp;unfold pE at hp;split at hp
  ·cases hp
  ·simp at hp;subst hp;exact h
theorem LQ {b:List UInt8} (h:b.length≤N):∀p∈Cq b,p.tx.length≤N:=by
  intro p hp;unfold Cq at hp;split at hp
  ·cases hp
  ·simp at hp;subst hp;exact h
theorem pS {l:List UInt8} {L:List eV} (hL:PL l L) (e:Nat) (he:e≤l.length):∀(m x:Nat) (here:List UInt8) (ex:Bool),here.length≤x→x≤l.length→∀p∈jx l L e m x here ex,p.tx.length≤l.length
  | 0,_,_,_,_,_=>by intro p hp;cases hp
  | m+1,x,here,ex,hh,hxl=>by
    unfold jx;by_cases hx:x<e
    ·rw[aC hx]
     cases hf:gK L x with
     | none=>exact pS hL e he m (x+1) _ ex (by simp;omega) (by omega)
     | some q=>
       obtain⟨_,hfr,hto,hlt,hle,_⟩:=gx hL hf;simp only;split
       ·exact pS hL e he m (x+1) _ ex (by simp;omega) (by omega)
       ·split
        ·exact pS hL e he m (ej q) _ ex (by have:=JU (l:=l) hlt (.inr trivial);simp;omega) hle
        ·intro p hp;rcases bC.1 hp with hp|hp
         ·exact LQ (by omega) p hp
         ·rcases bP.1 hp with rfl|hp
          ·have:=iO l x (ej q);simp only;omega
          ·exact pS hL e he m (ej q) [] true (by simp) hle p hp
    ·rw[aB hx];split
     ·intro p hp;cases hp
     ·intro p hp;simp at hp;subst hp;simp only;omega
theorem qF {l:List UInt8} {L:List eV} (hL:PL l L):∀(m x:Nat) (buf:List UInt8),buf.length≤x→x≤l.length→∀p∈iB l L m x buf,p.tx.length≤l.length
  | 0,_,buf,h,hx=>wP (by omega)
  | m+1,x,buf,h,hxl=>by
    unfold iB;by_cases hx:x<l.length
    ·rw[aC hx]
     cases hf:gK L x with
     | none=>exact qF hL m (x+1) _ (by simp;omega) (by omega)
     | some q=>
       obtain⟨_,hfr,hto,hlt,hle,h2,_⟩:=gx hL hf;have hn:=qF hL m (ej q) [] (by simp) hle;have hone:∀(y:Pc),y.tx.length≤l.length→∀p∈pE buf++y::iB l L m (ej q) [],p.tx.length≤l.length:=by
         intro y hy p hp;rcases bC.1 hp with hp|hp
         ·exact wP (by omega) p hp
         ·rcases bP.1 hp with rfl|hp
          ·exact hy
          ·exact hn p hp
       have hend:ll q≤ej q:=by unfold ll;split<;>omega
       simp only;split
       ·exact qF hL m (ej q) _ (by have:=iO l x (ej q);simp;omega) hle
       ·split
        ·split
         ·exact qF hL m (ej q) buf (by omega) hle
         ·exact hone _ (by have:=iO l (x+1) (ej q);simp only;omega)
        ·split
         ·exact hone _ (by have:=iO l (x+1) (ll q);simp only;omega)
         ·split
          ·intro p hp;rcases bC.1 hp with hp|hp
           ·exact wP (by omega) p hp
           ·rcases bC.1 hp with hp|hp
            ·exact pS hL (ll q) (by omega) _ (x+1) [] false (by simp) (by omega) p hp
            ·exact hn p hp
          ·exact hone _ (by have:=iO l x (ej q);simp only;omega)
    ·rw[aB hx];exact wP (by omega)
theorem sS:∀p∈lR l,p.tx.length≤l.length:=qF (ly l) (l.length+1) 0 [] (by simp) (by omega)
def gU:Nat→List UInt8
  | 1=>[38,38]|2=>[124,124]|3=>[59,59]|4=>[60,60]|5=>[60,60,45]|6=>[62,62]|7=>[60,38]|8=>[62,38]|9=>[60,62]
  | 10=>[62,124]|11=>[60]|12=>[62]|13=>[38]|14=>[59]|15=>[124]|16=>[40]|17=>[41]|_=>[]
def ir (w:List UInt8):Nat→Nat→Nat
  | 0,_=>0
  | m+1,k=>if gU k=w then k else ir w m (k+1)
def iE (w:List UInt8):Nat:=if w=[] then 0 else ir w 17 1
def ss (d:List UInt8):Nat→Nat×Nat
  | 0=>(0,0)
  | n+1=>if iE (d.take (n+1))≠0 then (iE (d.take (n+1)),n+1) else ss d n
def fw (l:List UInt8) (x:Nat):Nat×Nat:=if fi (l.getD x 0)≠3 then (0,0) else ss (l.drop x) (min 3 (l.length-x))
def ie (d:List UInt8):Nat→Nat
  | 0=>0
  | k+1=>if (gU (k+1)).isPrefixOf d=true∧(gU (ie d k)).length<(gU (k+1)).length then k+1 else ie d k
def uI:List UInt8:=[38,124,59,60,62,45,40,41]
def yu (c:UInt8):UInt8:=if uI.contains c then c else 0
theorem pO:∀k,∀c∈gU k,c∈uI:=by
  intro k;by_cases h:k<18
  ·have:((List.range 18).all fun k=>(gU k).all fun c=>uI.contains c)=true:=by decide +kernel
   have h2:=bK.1 this k (cR.2 h);intro c hc
   have:=bK.1 h2 c hc
   simpa using this
  ·intro c hc
   have:gU k=[]:=by unfold gU;split<;>first|omega|rfl
   rw[this] at hc
   cases hc
theorem FZ {c d:UInt8} (h:c∈uI):c=yu d↔c=d:=by
  unfold yu;constructor
  ·intro e;split at e
   ·exact e
   ·subst e;exact absurd h (by decide)
  ·intro e;subst e;rw[aC (by simpa using h)]
theorem wL:∀(t w:List UInt8),(∀c∈t,c∈uI)→(t=w.map yu↔t=w)
  | [],[],_=>by simp
  | [],_::_,_=>by simp
  | _::_,[],_=>by simp
  | a::t,b::w,h=>by
    have h1:=wL t w (fun c hc=>h c (cw _ hc));have h2:=FZ (d:=b) (h a dh);simp only[bX,List.cons.injEq,h1,h2]
theorem BU:∀(t w:List UInt8),(∀c∈t,c∈uI)→t.isPrefixOf (w.map yu)=t.isPrefixOf w
  | [],_,_=>by simp
  | _::_,[],_=>rfl
  | a::t,b::w,h=>by
    have h1:=BU t w (fun c hc=>h c (cw _ hc));have h2:=FZ (d:=b) (h a dh);simp only[bX,List.isPrefixOf,h1];congr 1;by_cases e:a=b
    ·subst e;simp[h2]
    ·have:¬a=yu b:=fun h=>e (h2.1 h)
     rw[ay.2 e,ay.2 this]
theorem tQ (w:List UInt8):∀m k,ir (w.map yu) m k=ir w m k
  | 0,_=>rfl
  | m+1,k=>by
    unfold ir;rw[tQ w m];by_cases e:gU k=w
    ·rw[aC e,aC ((wL _ _ (pO k)).2 e)]
    ·rw[aB e,aB (fun h=>e ((wL _ _ (pO k)).1 h))]
theorem FR:iE (w.map yu)=iE w:=by
  unfold iE;rw[tQ];by_cases e:w=[]
  ·subst e;rfl
  ·rw[aB e,aB (by simpa using e)]
theorem B8 (d:List UInt8):∀n,ss (d.map yu) n=ss d n
  | 0=>rfl
  | n+1=>by
    unfold ss;rw[←List.map_take,FR,B8 d n]
theorem tR (d:List UInt8):∀k,ie (d.map yu) k=ie d k
  | 0=>rfl
  | k+1=>by
    unfold ie;rw[tR d k,BU _ _ (pO _)]
theorem nR:(gU k).length≤3:=by
  unfold gU;split<;>simp
theorem Fc (h:t.length≤n):t.isPrefixOf (w.take n)=t.isPrefixOf w:=by
  induction t generalizing w n with
  | nil=>simp
  | cons a t ih=>
    cases w with
    | nil=>simp
    | cons b w=>
      cases n with
      | zero=>simp at h
      | succ n=>simp only[cG,List.isPrefixOf];rw[ih w n (by simpa using h)]
theorem su (d:List UInt8):∀k,ie (d.take 3) k=ie d k
  | 0=>rfl
  | k+1=>by
    unfold ie;rw[su d k,Fc _ _ _ (nR _)]
theorem yn (d:List UInt8) (m:Nat):∀n,n≤m→ss (d.take m) n=ss d n
  | 0,_=>rfl
  | n+1,h=>by
    unfold ss;rw[yn d m n (by omega),List.take_take,cL h]
def ms (d:List UInt8):Bool:=(ie d 17==(ss d (min 3 d.length)).1)&&((gU (ss d (min 3 d.length)).1).length==(ss d (min 3 d.length)).2)&&(fi (d.getD 0 0)==3||ie d 17==0)&&(fi (d.getD 0 0)!=3||(ss d (min 3 d.length)).2 != 0)
def qe:List UInt8:=0::uI
theorem AJ:(qe.all fun a=>ms [a])=true:=by decide +kernel
theorem AI:(qe.all fun a=>qe.all fun b=>ms [a,b])=true:=by decide +kernel
theorem wH:(qe.all fun a=>qe.all fun b=>qe.all fun c=>ms [a,b,c])=true:=by decide +kernel
theorem oN:yu c∈qe:=by
  unfold yu;split
  ·rename_i h;exact cw _ (by simpa using h)
  ·exact dh
theorem Cx:(fi (yu c)==3)=(fi c==3):=by
  have:=fh (fun c=>(fi (yu c)==3)==(fi c==3)) (by decide +kernel) c
  simpa using this
theorem AK (hd:d≠[]) (h:ms (d.map yu)=true):ms d=true:=by
  unfold ms at h ⊢;have e:(d.map yu).getD 0 0=yu (d.getD 0 0):=by
    cases d with
    | nil=>exact absurd rfl hd
    | cons a r=>rfl
  rw[tR,cD,B8,e,Cx] at h;have e2:(fi (yu (d.getD 0 0))!=3)=(fi (d.getD 0 0)!=3):=by unfold bne;rw[Cx]
  rw[e2] at h;exact h
theorem AL (hd:d≠[]):ms d=true:=by
  have hs:ms (d.take 3)=true:=by
    refine AK _ (by cases d<;>simp_all) ?_
    match d,hd with
    | [a],_=>exact bK.1 AJ _ (oN a)
    | [a,b],_=>exact bK.1 (bK.1 AI _ (oN a)) _ (oN b)
    | a::b::c::r,_=>exact bK.1 (bK.1 (bK.1 wH _ (oN a)) _ (oN b)) _ (oN c)
  unfold ms at hs ⊢;have e:(d.take 3).getD 0 0=d.getD 0 0:=by cases d<;>rfl
  have e2:min 3 (d.take 3).length=min 3 d.length:=by simp
  rw[su,e2,yn _ _ _ (by omega),e] at hs;exact hs
theorem oL (hx:x<l.length):ie (l.drop x) 17=(fw l x).1∧(gU (fw l x).1).length=(fw l x).2∧(0<(fw l x).2↔fi (l.getD x 0)=3):=by
  have hd:l.drop x≠[]:=by intro h;have:=congrArg List.length h;simp at this;omega
  have h:=AL _ hd;have e:(l.drop x).getD 0 0=l.getD x 0:=by simp[aE]
  unfold ms at h;rw[e,dF] at h;simp only[aS,aN,du,dH] at h;obtain⟨⟨⟨h1,h2⟩,h3⟩,h4⟩:=h;unfold fw;by_cases hc:fi (l.getD x 0)=3
  ·rw[aB (fun h=>h hc)];refine⟨h1,h2,fun _=>hc,fun _=>?_⟩;rcases h4 with h4|h4
   ·exact absurd hc h4
   ·omega
  ·rw[aC hc];refine⟨?_,rfl,fun h=>by simp at h,fun h=>absurd h hc⟩;rcases h3 with h3|h3
   ·exact absurd h3 hc
   ·exact h3
def gJ (l:List UInt8) (x:Nat):Nat:=x+((l.drop x).takeWhile fun c=>c.toNat != 10).length
def jT (t:Bool) (b:List UInt8):List UInt8:=if t=true then b.dropWhile (fun c=>c.toNat==9) else b
def kh (l:List UInt8) (x:Nat):Nat:=if gJ l x<l.length then gJ l x+1 else gJ l x
def uf (l w:List UInt8) (t:Bool):Nat→Nat→Nat×Bool
  | 0,x=>(x,false)
  | m+1,x=>if x<l.length then (if jT t (sub l x (gJ l x))=w then (kh l x,true) else uf l w t m (kh l x)) else (x,false)
def gv (l:List UInt8) (x:Nat) (w:List UInt8) (t:Bool):Nat×Bool:=uf l w t (l.length-x) x
theorem nV (h:x≤l.length):x≤gJ l x∧gJ l x≤l.length:=by
  unfold gJ
  have:=(List.takeWhile_prefix (l:=l.drop x) (fun c=>c.toNat != 10)).length_le
  simp at this;omega
theorem qQ (h:x<l.length):x<kh l x∧kh l x≤l.length:=by
  have h1:=nV l x (by omega);unfold kh;split
  ·omega
  ·constructor
   ·have:gJ l x=l.length:=by omega
    omega
   ·omega
theorem ue (l w:List UInt8) (t:Bool):∀(m m' x:Nat),l.length-x≤m→l.length-x≤m'→uf l w t m x=uf l w t m' x
  | 0,m',x,h,h'=>by
    cases m' with
    | zero=>rfl
    | succ m'=>unfold uf;rw[aB (by omega)]
  | m+1,0,x,h,h'=>by unfold uf;rw[aB (by omega)]
  | m+1,m'+1,x,h,h'=>by
    unfold uf;by_cases hx:x<l.length
    ·have:=qQ l x hx
     rw[aC hx,aC hx,ue l w t m m' (kh l x) (by omega) (by omega)]
    ·rw[aB hx,aB hx]
theorem kn (t:Bool):gv l x w t=if x<l.length then (if jT t (sub l x (gJ l x))=w then (kh l x,true) else gv l (kh l x) w t) else (x,false):=by
  unfold gv;by_cases hx:x<l.length
  ·have:=qQ l x hx
   obtain⟨m,hm⟩:∃m,l.length-x=m+1:=⟨l.length-x-1,by omega⟩;rw[hm];show (if x<l.length then _ else _)=_;rw[aC hx,aC hx,ue l w t m (l.length-kh l x) (kh l x) (by omega) (au _)]
  ·rw[aB hx,show l.length-x=0 by omega];rfl
theorem yQ (t:Bool):∀(m x:Nat),l.length-x=m→x<l.length→x<(gv l x w t).1∧(gv l x w t).1≤l.length∧((gv l x w t).2=false→(gv l x w t).1=l.length):=by
  intro m
  induction m using Nat.strongRecOn with
  | _ m ih=>
    intro x hm hx;rw[kn,aC hx]
    have:=qQ l x hx
    by_cases hw:jT t (sub l x (gJ l x))=w
    ·rw[aC hw];exact⟨this.1,this.2,fun h=>by cases h⟩
    ·rw[aB hw];by_cases hy:kh l x<l.length
     ·have h2:=ih (l.length-kh l x) (by omega) (kh l x) rfl hy;exact⟨by omega,h2.2.1,h2.2.2⟩
     ·rw[kn,aB hy];exact⟨this.1,this.2,fun _=>by show kh l x=_;omega⟩
def gS (c:UInt8):Bool:=c.toNat==32||c.toNat==9
def gZ (l:List UInt8) (x:Nat):Bool:=x+1<l.length&&(l.getD x 0).toNat==92&&(l.getD (x+1) 0).toNat==10
def oy (l:List UInt8):Nat→Nat→Nat
  | 0,x=>x
  | m+1,x=>if x<l.length then (if gS (l.getD x 0)=true then oy l m (x+1) else if gZ l x=true then oy l m (x+2) else x) else x
def fE (l:List UInt8) (x:Nat):Nat:=oy l (l.length-x) x
theorem mi (l:List UInt8):∀(m m' x:Nat),l.length-x≤m→l.length-x≤m'→oy l m x=oy l m' x
  | 0,m',x,h,h'=>by
    cases m' with
    | zero=>rfl
    | succ m'=>unfold oy;rw[aB (by omega)]
  | m+1,0,x,h,h'=>by unfold oy;rw[aB (by omega)]
  | m+1,m'+1,x,h,h'=>by
    unfold oy;rw[mi l m m' (x+1) (by omega) (by omega),mi l m m' (x+2) (by omega) (by omega)]
theorem lu:fE l x=if x<l.length then (if gS (l.getD x 0)=true then fE l (x+1) else if gZ l x=true then fE l (x+2) else x) else x:=by
  unfold fE;by_cases hx:x<l.length
  ·obtain⟨m,hm⟩:∃m,l.length-x=m+1:=⟨l.length-x-1,by omega⟩;rw[hm];show (if x<l.length then _ else _)=_;rw[aC hx,aC hx,mi l m (l.length-(x+1)) (x+1) (by omega) (au _),mi l m (l.length-(x+2)) (x+2) (by omega) (au _)]
  ·rw[aB hx,show l.length-x=0 by omega];rfl
theorem mW:∀(m x:Nat),l.length-x=m→x≤l.length→x≤fE l x∧fE l x≤l.length:=by
  intro m
  induction m using Nat.strongRecOn with
  | _ m ih=>
    intro x hm hx;rw[lu];by_cases hl:x<l.length
    ·rw[aC hl];split
     ·have:=ih (l.length-(x+1)) (by omega) (x+1) rfl (by omega);omega
     ·split
      ·rename_i hc;have hc2:x+1<l.length:=by unfold gZ at hc;simp at hc;exact hc.1.1
       have:=ih (l.length-(x+2)) (by omega) (x+2) rfl (by omega);omega
      ·omega
    ·rw[aB hl];omega
theorem se (hx:x<l.length):x<fE l x↔gS (l.getD x 0)=true∨gZ l x=true:=by
  rw[lu,aC hx];split
  ·rename_i h
   have:=mW l _ (x+1) rfl (by omega)
   exact⟨fun _=>.inl h,fun _=>by omega⟩
  ·rename_i h;split
   ·rename_i hc;have hc2:x+1<l.length:=by unfold gZ at hc;simp at hc;exact hc.1.1
    have:=mW l _ (x+2) rfl (by omega)
    exact⟨fun _=>.inr hc,fun _=>by omega⟩
   ·rename_i hc;exact⟨fun h2=>by omega,fun h2=>by rcases h2 with h2|h2;exact absurd h2 h;exact absurd h2 hc⟩
abbrev mD (l:List UInt8) (x:Nat):Nat:=fL gF l x
def mR (l:List UInt8) (x:Nat):Bool:=decide (0<mD l x)&&decide (x+mD l x<l.length)&&((l.getD (x+mD l x) 0).toNat==60||(l.getD (x+mD l x) 0).toNat==62)
structure Tk where
  kd:Nat
  fr:Nat
  to:Nat
  op:Bool
abbrev Dl:=List UInt8×Bool
structure Lx where
  aw:Int
  pd:List Dl
  bd:Bool
def l6 (w:List UInt8):Bool:=decide (L6 (fZ w w.length).1=[])
def fD (l:List UInt8) (x:Nat):Tk:=
  if gS (l.getD x 0)=true∨gZ l x=true then ⟨1,x,fE l x,false⟩
  else if (l.getD x 0).toNat=10 then ⟨2,x,x+1,false⟩
  else if (l.getD x 0).toNat=35 then ⟨3,x,gJ l x,false⟩
  else if 0<(fw l x).2 then ⟨4,x,x+(fw l x).2,false⟩
  else if mR l x=true then ⟨5,x,x+mD l x,false⟩
  else ⟨6,x,x+jt l x,!l6 (sub l x (x+jt l x))⟩
def fB (t:List UInt8) (k:Nat) (X:Lx):Lx:=
  if k=1 then ⟨X.aw,X.pd,false⟩
  else if k=2 then ⟨0,X.pd,!X.pd.isEmpty⟩
  else if k=4 then ⟨if iE t=4∨iE t=5 then (iE t:Int) else 0,X.pd,false⟩
  else if k=6 then ⟨0,if X.aw≠0 then X.pd++[(qg (lR t),decide (X.aw=5))] else X.pd,false⟩
  else ⟨0,X.pd,false⟩
def ou (l:List UInt8) (x:Nat) (X:Lx) (d:Dl) (r:List Dl):Tk×Lx:=
  if (gv l x d.1 d.2).2=true then (⟨7,x,(gv l x d.1 d.2).1,false⟩,⟨X.aw,r,!r.isEmpty⟩) else (⟨7,x,(gv l x d.1 d.2).1,true⟩,X)
def eU (l:List UInt8) (x:Nat) (X:Lx):Tk×Lx:=
  match X.bd,X.pd with
  | true,d::r=>ou l x X d r
  | _,_=>(fD l x,fB (sub l x (fD l x).to) (fD l x).kd X)
def pj (l:List UInt8):Nat→Nat→Lx→List Tk×Lx
  | 0,_,X=>([],X)
  | m+1,x,X=>if x<l.length then ((eU l x X).1::(pj l m (eU l x X).1.to (eU l x X).2).1,(pj l m (eU l x X).1.to (eU l x X).2).2) else ([],X)
def yD:Lx:=⟨0,[],false⟩
def ki (l:List UInt8):List Tk×Lx:=pj l (l.length+1) 0 yD
theorem vd (h:x≤l.length):sub l x (x+n)=(l.drop x).take n:=by unfold sub;rw[List.drop_take];congr 1;omega
theorem rR:(l.drop x).getD i 0=l.getD (x+i) 0:=by simp[aE]
theorem BC (p:UInt8→Bool):∀(m:List UInt8),(m.takeWhile p).length<m.length→p (m.getD (m.takeWhile p).length 0)=false
  | [],h=>by simp at h
  | b::m,h=>by
    by_cases hb:p b=true
    ·rw[dC,aC hb] at h ⊢;exact BC p m (by simpa using h)
    ·rw[dC,aB hb];simpa using hb
theorem BB (p:UInt8→Bool):∀(m:List UInt8) (k:Nat),(∀i,i<k→p (m.getD i 0)=true)→k<m.length→p (m.getD k 0)=false→(m.takeWhile p).length=k
  | [],k,_,h,_=>by simp at h
  | b::m,0,_,_,h=>by
    have hb:p b=false:=h;rw[dC,aB (by rw[hb];decide)];rfl
  | b::m,k+1,h1,h2,h3=>by
    have hb:p b=true:=h1 0 (by omega);rw[dC,aC hb,aQ,BB p m k (fun i hi=>h1 (i+1) (by omega)) (by simpa using h2) h3]
theorem oD (l:List UInt8) (x:Nat) (h:x+fL p l x<l.length):p (l.getD (x+fL p l x) 0)=false:=by
  rw[←rR];exact BC p (l.drop x) (by have:fL p l x=((l.drop x).takeWhile p).length:=rfl;rw[dF];omega)
theorem oC (l:List UInt8) (x k:Nat) (h1:∀i,i<k→p (l.getD (x+i) 0)=true) (h2:x+k<l.length) (h3:p (l.getD (x+k) 0)=false):fL p l x=k:=
  BB p (l.drop x) k (fun i hi=>by rw[rR];exact h1 i hi) (by rw[dF];omega) (by rw[rR];exact h3)
theorem tY:gJ l x=x+fL (fun c=>c.toNat != 10) l x:=rfl
theorem rZ (s:Nat→Bool):∀(m k:Nat),k≤nC s m k∧nC s m k≤k+m∧(∀j,k≤j→j<nC s m k→s j=false)∧(nC s m k<k+m→s (nC s m k)=true)
  | 0,k=>⟨au _,au _,fun j h1 h2=>by simp only[nC] at h2;omega,fun h=>by simp only[nC] at h;omega⟩
  | m+1,k=>by
    unfold nC;by_cases hs:s k=true
    ·rw[aC hs];exact⟨au _,by omega,fun j h1 h2=>by omega,fun _=>hs⟩
    ·rw[aB hs];obtain⟨h1,h2,h3,h4⟩:=rZ s m (k+1);refine⟨by omega,by omega,fun j h5 h6=>?_,fun h=>h4 (by omega)⟩;by_cases e:j=k
     ·subst e;simpa using hs
     ·exact h3 j (by omega) h6
theorem tf:jt l x≤l.length-x:=by
  have:=(rZ (gQ l x) (l.length-x) 0).2.1
  unfold jt;omega
theorem yw (hx:x<l.length) (h:gY (l.getD x 0)=false):0<jt l x:=by
  obtain⟨a1,a2,a3,a4⟩:=rZ (gQ l x) (l.length-x) 0;have e:nC (gQ l x) (l.length-x) 0=jt l x:=rfl;rw[e] at a1 a2 a3 a4;refine Nat.pos_of_ne_zero fun h0=>?_
  rw[h0] at a4
  have:=a4 (by omega)
  unfold gQ nD at this;rw[Nat.add_zero,h] at this;simp at this
theorem JV (h:gY c=true):gS c=true∨c.toNat=10∨fi c=3:=by
  have:=fh (fun c => !gY c||(gS c||c.toNat==10||fi c==3)) (by decide +kernel) c
  simpa [h,or_assoc] using this
theorem oJ (hx:x<l.length):(fD l x).fr=x∧x<(fD l x).to∧(fD l x).to≤l.length∧1≤(fD l x).kd∧(fD l x).kd≤6:=by
  unfold fD;split
  ·rename_i h;have h1:=(se l x hx).2 h;have h2:=mW l _ x rfl (by omega);exact⟨rfl,h1,h2.2,(by decide:1≤1),(by decide:1≤6)⟩
  ·rename_i h;split
   ·exact⟨rfl,dA _,hx,(by decide:1≤2),(by decide:2≤6)⟩
   ·rename_i h10;split
    ·rename_i h35;have h1:=nV l x (by omega);refine⟨rfl,?_,h1.2,(by decide:1≤3),(by decide:3≤6)⟩;show x<gJ l x
     have:((l.drop x).takeWhile fun c=>c.toNat != 10).length≠0:=by
       rw[cI hx,dC,aC]
       ·simp
       ·rw[aE,ax hx] at h35;have h35:(l[x]).toNat=35:=h35;rw[h35];rfl
     unfold gJ;omega
    ·split
     ·rename_i hop;refine⟨rfl,?_,?_,(by decide:1≤4),(by decide:4≤6)⟩
      ·show x<x+_;omega
      ·show x+(fw l x).2≤l.length
       have:∀(d:List UInt8) (n:Nat),(ss d n).2≤n:=by
         intro d n
         induction n with
         | zero=>exact au _
         | succ n ih=>unfold ss;split;exact au _;omega
       unfold fw;split
       ·simp;omega
       ·have:=this (l.drop x) (min 3 (l.length-x));omega
     ·rename_i hop;split
      ·rename_i hn;unfold mR at hn;simp at hn;exact⟨rfl,by show x<x+_;omega,by show x+_≤_;omega,(by decide:1≤5),(by decide:5≤6)⟩
      ·rename_i hn;have he:gY (l.getD x 0)=false:=by
         cases h2:gY (l.getD x 0)
         ·rfl
         ·exfalso;rcases JV _ h2 with h3|h3|h3
          ·exact h (.inl h3)
          ·exact h10 h3
          ·exact hop ((oL l x hx).2.2.2 h3)
       have h1:=yw l x hx he;have h2:=tf l x;exact⟨rfl,by show x<x+_;omega,by show x+_≤_;omega,(by decide:1≤6),(by decide:6≤6)⟩
theorem J5 (hx:x<l.length) (X:Lx) (d:Dl) (r:List Dl):(ou l x X d r).1.fr=x∧x<(ou l x X d r).1.to∧(ou l x X d r).1.to≤l.length∧(ou l x X d r).1.kd=7:=by
  have h:=yQ l d.1 d.2 _ x rfl hx;unfold ou;split
  ·exact⟨rfl,h.1,h.2.1,rfl⟩
  ·exact⟨rfl,h.1,h.2.1,rfl⟩
theorem jU (hx:x<l.length) (X:Lx):(eU l x X).1.fr=x∧x<(eU l x X).1.to∧(eU l x X).1.to≤l.length∧1≤(eU l x X).1.kd∧(eU l x X).1.kd≤7:=by
  have hp:=oJ l x hx;unfold eU;split
  ·rename_i d r _ _
   have:=J5 l x hx X d r
   exact⟨this.1,this.2.1,this.2.2.1,by omega,by omega⟩
  ·exact⟨hp.1,hp.2.1,hp.2.2.1,hp.2.2.2.1,by have:=hp.2.2.2.2;show (fD l x).kd≤7;omega⟩
theorem vE (l:List UInt8):∀(m m' x:Nat) (X:Lx),l.length<m+x→l.length<m'+x→pj l m x X=pj l m' x X
  | 0,m',x,X,h,h'=>by
    cases m' with
    | zero=>rfl
    | succ m'=>unfold pj;rw[aB (by omega)]
  | m+1,0,x,X,h,h'=>by unfold pj;rw[aB (by omega)]
  | m+1,m'+1,x,X,h,h'=>by
    unfold pj;by_cases hx:x<l.length
    ·have:=jU l x hx X
     rw[aC hx,aC hx,vE l m m' _ _ (by omega) (by omega)]
    ·rw[aB hx,aB hx]
def yG (l:List UInt8) (x:Nat) (X:Lx):List Tk×Lx:=pj l (l.length+1-x) x X
theorem Cg (X:Lx):yG l x X=if x<l.length then ((eU l x X).1::(yG l (eU l x X).1.to (eU l x X).2).1,(yG l (eU l x X).1.to (eU l x X).2).2) else ([],X):=by
  unfold yG;by_cases hx:x<l.length
  ·obtain⟨m,hm⟩:∃m,l.length+1-x=m+1:=⟨l.length-x,by omega⟩
   have:=jU l x hx X
   rw[hm];show (if x<l.length then _ else _)=_;rw[aC hx,aC hx,vE l m (l.length+1-(eU l x X).1.to) (eU l x X).1.to (eU l x X).2 (by omega) (by omega)]
  ·rw[aB hx];by_cases h0:l.length+1-x=0
   ·rw[h0];rfl
   ·obtain⟨m,hm⟩:∃m,l.length+1-x=m+1:=⟨l.length+1-x-1,by omega⟩;rw[hm];show (if x<l.length then _ else _)=_;rw[aB hx]
def nH (l:List UInt8):List Tk→Nat→Prop
  | [],x=>x=l.length
  | t::r,x=>t.fr=x∧x<t.to∧t.to≤l.length∧1≤t.kd∧t.kd≤7∧nH l r t.to
theorem uZ (l:List UInt8):∀(m x:Nat) (X:Lx),x≤l.length→l.length<m+x→nH l (pj l m x X).1 x
  | 0,x,X,h1,h2=>by omega
  | m+1,x,X,h1,h2=>by
    unfold pj;by_cases hx:x<l.length
    ·obtain⟨a,b,c,d,e⟩:=jU l x hx X;rw[aC hx];exact⟨a,b,c,d,e,uZ l m _ _ c (by omega)⟩
    ·rw[aB hx];show x=l.length;omega
theorem mF:nH l (ki l).1 0:=uZ l _ 0 yD (br _) (by omega)
theorem BH {l:List UInt8}:∀{ts:List Tk} {x:Nat} (_:nH l ts x) (i:Nat) (t:Tk),ts[i]? = some t→x≤t.fr∧t.fr<t.to∧t.to≤l.length∧1≤t.kd∧t.kd≤7
  | [],x,h,i,t,hi=>by simp at hi
  | a::r,x,⟨h1,h2,h3,h4,h5,h6⟩,0,t,hi=>by
    simp at hi;subst hi;omega
  | a::r,x,⟨h1,h2,h3,h4,h5,h6⟩,i+1,t,hi=>by
    have:=BH h6 i t (by simpa using hi)
    omega
theorem xA {l:List UInt8}:∀{ts:List Tk} {x:Nat} (_:nH l ts x),ts.length+x≤l.length
  | [],x,h=>by have h:x=l.length:=h;simp;omega
  | a::r,x,⟨h1,h2,h3,h4,h5,h6⟩=>by
    have:=xA h6
    simp;omega
theorem nW:(ki l).1.length≤l.length:=by have:=xA (mF l);omega
end Go.Proofs.YtcagfamdoaoimaaGreatDoor
