/- Each part by the frames that make it: from where to where it goes. No program is in sight. -/
import Derived.Test.YtcagfamdoaoimaaGreatDoorPl6
import Derived.Test.YtcagfamdoaoimaaGreatDoorCls
set_option linter.unusedVariables false
set_option linter.unusedSimpArgs false
set_option maxRecDepth 100000
set_option maxHeartbeats 8000000
namespace Go.Proofs.YtcagfamdoaoimaaGreatDoor
def kq (l:List UInt8) (f k:Nat):Prop:=(f:Int)∈eV (FT l k)
theorem Ib {l:List UInt8} {f k:Nat} (h:kq l f k):f<k:=by have:=(oU l k).2 _ h;omega
theorem BF {l:List UInt8} {f k:Nat} (h:kq l f (k+1)) (hk:k≠f):kq l f k:=by
  obtain⟨j,A,B,hF,hj,hA,hB⟩:=mH l k;unfold kq at h;rw[hF,eV,cw] at h;rcases aZ.1 h with h|h
  ·have h':(f:Int)∈eV A:=h;rw[hA] at h';exact cN h'
  ·rcases hB with rfl|⟨c,rfl⟩
   ·cases h
   ·simp at h;omega
theorem BE {l:List UInt8} {f k:Nat} (h:kq l f k):∀j,f<j→j≤k→kq l f j:=by
  induction k with
  | zero=>intro j h1 h2;have:=Ib h;omega
  | succ k ih=>
    intro j h1 h2;by_cases e:j=k+1
    ·subst e;exact h
    ·exact ih (BF h (by omega)) j h1 (by omega)
theorem FZ {l:List UInt8} {f:Nat} (h:kq l f (f+1)):∃A c,FT l (f+1)=A++[(c,(f:Int))]∧∀p∈eV A,p∈eV (FT l f):=by
  obtain⟨j,A,B,hF,hj,hA,hB⟩:=mH l f;have hs:∀p∈eV A,p∈eV (FT l f):=fun p hp=>by rw[hA] at hp;exact cN hp
  rcases hB with rfl|⟨c,rfl⟩
  ·unfold kq at h;rw[hF,bz] at h
   have:=(oU l f).2 _ (hs _ h)
   omega
  ·exact⟨A,c,hF,hs⟩
theorem Bz (c:UInt8):tj c=12↔c.toNat=76:=by
  have:=fg (fun c=>decide (tj c=12)==decide (c.toNat=76)) (by decide +kernel) c
  simpa using this
theorem CC {l:List UInt8} {f k:Nat} {c:UInt8} (h:(c,(f:Int))∈FT l k) (hc:c.toNat=76):k=f+1∧∃d p r,(fY l k).1=(76,(f:Int))::(d,p)::r:=by
  have hm:(c,(f:Int))∈(fY l k).1:=by rw[jD];exact List.mem_append_left _ (by simpa [FT] using h)
  rcases Kt l k with h1|⟨d,q,r,he,h1,_,_⟩
  ·exact absurd hc (h1 _ hm)
  ·rw[he] at hm;rcases br.1 hm with hm|hm
   ·simp only[Prod.mk.injEq] at hm;exact⟨by omega,d,q,r,by rw[he,hm.2]⟩
   ·exact absurd hc (h1 _ hm)
theorem rk (F:Nat→eU) (fr:Int) (n:Nat):∀(m k:Nat) (q:fh),q.op=true →
    (iT F fr n m k q).fr=q.fr∧(iT F fr n m k q).up=q.up ∧
    (((iT F fr n m k q).op=true∧(iT F fr n m k q).to=q.to∧(∀j,k≤j→j<k+m→fr∈eV (F j)))∨((iT F fr n m k q).op=false∧∃e:Nat,k≤e∧e<k+m∧(iT F fr n m k q).to=e∧fr∉eV (F e)∧∀j,k≤j→j<e→fr∈eV (F j))) ∧
    (((iT F fr n m k q).mode=q.mode∧(fr∉eV (F k)∨m=0))∨∃e,k≤e∧e<k+m∧fr∈eV (F e)∧(iT F fr n m k q).mode=tj ((F e).getD (n-1) (0,0)).1)
  | 0,k,q,ho=>⟨rfl,rfl,.inl ⟨ho,rfl,fun j _ _=>by omega⟩,.inl ⟨rfl,.inr rfl⟩⟩
  | m+1,k,q,ho=>by
    unfold iT;by_cases hm:fr∈eV (F k)
    ·rw[aB (fun h=>kn.1 h hm)];obtain⟨h1,h2,h3,h4⟩:=rk F fr n m (k+1) {q with mode:=tj ((F k).getD (n-1) (0,0)).1} ho;refine⟨h1,h2,?_,.inr ?_⟩
     ·rcases h3 with ⟨h3,h5,h6⟩|⟨h3,e,h5,h6,h7,h8,h9⟩
      ·refine .inl ⟨h3,h5,fun j hj hj2=>?_⟩;by_cases e:j=k
       ·subst e;exact hm
       ·exact h6 j (by omega) (by omega)
      ·refine .inr ⟨h3,e,by omega,by omega,h7,h8,fun j hj hj2=>?_⟩;by_cases e:j=k
       ·subst e;exact hm
       ·exact h9 j (by omega) (by omega)
     ·rcases h4 with ⟨h4,_⟩|⟨e,h5,h6,h7,h8⟩
      ·exact⟨k,au _,by omega,hm,h4⟩
      ·exact⟨e,by omega,by omega,h7,h8⟩
    ·rw[aD (kn.2 hm)];exact⟨rfl,rfl,.inr ⟨rfl,k,au _,by omega,rfl,hm,fun j _ _=>by omega⟩,.inl ⟨rfl,.inl hm⟩⟩
structure PI (l:List UInt8) (q:fh) (f:Nat):Prop where
  fr:q.fr=f
  lt:f<l.length
  al:kq l f (f+1)
  up:q.up=D7 (FT l (f+1)) (eJ l f)
  kind:(q.mode≠12∧((q.op=true∧q.to=l.length∧∀j,f<j→j≤l.length→kq l f j)∨(q.op=false∧∃e:Nat,f+1<e∧e≤l.length∧q.to=e∧¬kq l f e∧∀j,f<j→j<e→kq l f j))∧∀c:UInt8,(c,(f:Int))∈FT l (f+1)→c.toNat=76→kq l f (f+2)) ∨
    (q.mode=12∧q.op=false∧q.to=f+1+(pn l (f+1):Int)∧(∃d p r,(fY l (f+1)).1=(76,(f:Int))::(d,p)::r)∧(f+2≤l.length→¬kq l f (f+2)))
theorem M7 {l:List UInt8} {f:Nat} (hf:f<l.length) {q:fh} (hq:q∈mQ (FT l (f+1)) f (eJ l f)):PI l (nU l (l7 l (l.length-(f+1)) (f+2) q)) f:=by
  have hal:kq l f (f+1):=by
    refine dD fun h=>?_
    rw[oF (fun p hp e=>h (by unfold kq;rw[←e];exact hp))] at hq
    cases hq
  obtain⟨A,c,hF,hs⟩:=FZ hal;rw[oE hF] at hq;simp only[cE] at hq;have h0:(eV (FT l (f+1)))[A.length]? = some (f:Int):=by rw[hF];simp[eV]
  have hop:q.op=true:=by rw[hq]
  have hfr:q.fr=f:=by rw[hq]
  have hup:q.up=D7 (FT l (f+1)) (eJ l f):=by rw[hq]
  have hmd:q.mode=tj c:=by rw[hq]
  have hse:=ot l f (A.length+1) (fun k hk hm=>lj l f A.length h0 k hk hm) (l.length-(f+1)) (f+2) q hop hfr (by omega);obtain⟨s1,s2,s3,s4⟩:=rk (FT l) f (A.length+1) (l.length-(f+1)) (f+2) {q with to:=l.length} hop;unfold nU;rw[←hse];generalize iT (FT l) f (A.length+1) (l.length-(f+1)) (f+2) {q with to:=l.length}=r at *;have r1:r.fr=f:=s1.trans hfr;have r2:r.up=D7 (FT l (f+1)) (eJ l f):=s2.trans hup;by_cases hm:r.mode=12
  ·have e:nV l r={r with to:=r.fr+1+(pn l (r.fr+1).toNat:Int),op:=false}:=by unfold nV;rw[aD hm]
   rw[e];have hx:tj c=12∧((f:Int)∉eV (FT l (f+2))∨l.length-(f+1)=0):=by
     rcases s4 with ⟨s4,s5⟩|⟨e,h1,h2,h3,h4⟩
     ·rw[hm] at s4;exact⟨by rw[←hmd];exact s4.symm,s5⟩
     ·exfalso;rw[hm] at h4;have hc:=(Bz _).1 h4.symm;have h5:=lj l f A.length h0 e (by omega) h3;rw[dI] at hc;rw[bc] at h5
      cases hy:(FT l e)[A.length]? with
      | none=>rw[hy] at h5;cases h5
      | some y=>
        rw[hy] at h5;obtain⟨c',p'⟩:=y;simp at h5;subst h5;rw[aE,hy] at hc
        have:=(CC (aO hy) hc).1
        omega
   have hc:=(Bz c).1 hx.1;refine⟨r1,hf,hal,r2,.inr ⟨hm,rfl,?_,(CC (c:=c) (by rw[hF];simp) hc).2,?_⟩⟩
   ·show r.fr+1+(pn l (r.fr+1).toNat:Int)=_;rw[r1];rfl
   ·intro h2;rcases hx.2 with h|h
    ·exact h
    ·omega
  ·have e:nV l r=r:=by unfold nV;rw[aB hm]
   rw[e];refine⟨r1,hf,hal,r2,.inl ⟨hm,?_,?_⟩⟩
   rotate_left
   ·intro c' hc' h76;rcases s4 with ⟨s4,s5⟩|⟨e,h1,h2,h3,h4⟩
    ·exfalso;obtain⟨i,hi⟩:=dq.1 hc';have hi2:(eV (FT l (f+1)))[i]? = some (f:Int):=by rw[bc,hi];rfl
     have:=rC (qV l (f+1)) hi2 h0
     subst this;rw[hF] at hi;simp at hi;subst hi;exact hm (by rw[s4];show q.mode=12;rw[hmd];exact(Bz _).2 h76)
    ·exact BE h3 (f+2) (by omega) (by omega)
   rcases s3 with ⟨h1,h2,h3⟩|⟨h1,e,h2,h3,h4,h5,h6⟩
   ·refine .inl ⟨h1,h2,fun j hj hj2=>?_⟩;by_cases e:j=f+1
    ·subst e;exact hal
    ·exact h3 j (by omega) (by omega)
   ·refine .inr ⟨h1,e,by omega,by omega,h4,h5,fun j hj hj2=>?_⟩;by_cases e:j=f+1
    ·subst e;exact hal
    ·exact h6 j (by omega) (by omega)
theorem AL (l:List UInt8):eC l=(List.range l.length).flatMap (fun f=>(mQ (FT l (f+1)) f (eJ l f)).map fun q=>nU l (l7 l (l.length-(f+1)) (f+2) q)):=by
  rw[←tR];exact(po l l.length (au _)).1
theorem Dz (l:List UInt8):ia (eC l)=ia (eJ l l.length):=by
  unfold eC;simp only[ia,dJ];exact cL fun q _=>Cw l q
theorem AK (l:List UInt8):(ia (eC l)).Pairwise (· < ·):=by rw[Dz];exact(mC l l.length).rise
theorem M6 {l:List UInt8} {q:fh} {f:Nat} (hq:PI l q f):(f:Int)<q.to∧q.to≤(l.length:Int):=by
  have hfl:=hq.lt;rcases hq.kind with ⟨_,h,_⟩|⟨_,_,h,_,_⟩
  ·rcases h with ⟨_,h,_⟩|⟨_,e,h1,h2,h3,_⟩
   ·rw[h];omega
   ·rw[h3];omega
  ·have:=wJ l (f+1)
   rw[h];omega
theorem IT {L:List fh} (hr:(ia L).Pairwise (· < ·)) {i k:Nat} {p q:fh} (hi:L[i]? = some p) (hk:L[k]? = some q):k<i↔q.fr<p.fr:=by
  obtain⟨h1,h2⟩:=ay.1 hi;obtain⟨h3,h4⟩:=ay.1 hk;have hp:=bN.1 hr;have g1:(ia L)[i]'(by simpa using h1)=p.fr:=by simp[ia,h2]
  have g3:(ia L)[k]'(by simpa using h3)=q.fr:=by simp[ia,h4]
  constructor
  ·intro h
   have:=hp k i (by simpa using h3) (by simpa using h1) h
   rwa [g1,g3] at this
  ·intro h;refine Nat.lt_of_not_le fun hh=>?_
   rcases Nat.lt_or_eq_of_le hh with h5|h5
   ·have:=hp i k (by simpa using h1) (by simpa using h3) h5
    rw[g1,g3] at this;omega
   ·subst h5;rw[hi] at hk;injection hk with hk
    subst hk;omega
theorem getD_some {L:List fh} {k:Nat} {q:fh} (h:L[k]? = some q):L.getD k dP=q:=by rw[aE,h];rfl
theorem Mb (c:UInt8):tj c=13↔c.toNat=88:=by
  have:=fg (fun c=>decide (tj c=13)==decide (c.toNat=88)) (by decide +kernel) c
  simpa using this
def PX (st:eU) (a:Int) (x:eU×Bool):Prop:=∀y∈x.1,y.1=88→y∈st∨y.2=a
theorem PX.same {st:eU} {a:Int} {f:Bool}:PX st a (st,f):=fun y hy _=>.inl hy
theorem PX.tail {st:eU} {a:Int} {f:Bool}:PX st a (st.tail,f):=fun y hy _=>.inl (List.mem_of_mem_tail hy)
theorem PX.push {st:eU} {a:Int} {f:Bool} {c:UInt8}:PX st a ((c,a)::st,f):=fun y hy _=>by
  rcases br.1 hy with rfl|hy
  ·exact .inr rfl
  ·exact .inl hy
theorem PX.turn {r:eU} {a p:Int} {f:Bool} {c d:UInt8} (hc:c≠88):PX ((d,p)::r) a ((c,p)::r,f):=fun y hy h=>by
  rcases br.1 hy with rfl|hy
  ·exact absurd h hc
  ·exact .inl (bG _ hy)
theorem PX.deep {r:eU} {a:Int} {y:UInt8×Int} {x:eU×Bool} (h:PX r a x):PX (y::r) a x:=fun z hz e=>by
  rcases h z hz e with h1|h1
  ·exact .inl (bG _ h1)
  ·exact .inr h1
theorem PX.other {r:eU} {a p:Int} {c d:UInt8} {x:eU×Bool} (hc:c≠88) (h:PX ((c,p)::r) a x):PX ((d,p)::r) a x:=fun z hz e=>by
  rcases h z hz e with h1|h1
  ·rcases br.1 h1 with rfl|h1
   ·exact absurd e hc
   ·exact .inl (bG _ h1)
  ·exact .inr h1
theorem ox (st:eU) (f:Bool) (c b:UInt8) (a:Int):PX st a (dL st f c b a):=by
  unfold dL
  repeat' (refine ek (PX st a) (fun _=>?_) (fun _=>?_))
  all_goals first
    | exact rProgram_px _ _ _ _ _
    | exact PX.push
    | exact PX.tail
    | exact PX.same
    | (cases st with
       | nil=>exact PX.same
       | cons y r=>exact PX.turn (by decide))
theorem EU (st:eU) (f:Bool) (b:UInt8) (a:Int):PX st a (eG st f b a):=by
  match st with
  | []=>exact PX.same
  | (c,p)::r=>
    unfold eG;refine ek (PX ((c,p)::r) a) (fun _=>?_) (fun _=>?_)
    ·refine ek (PX ((c,p)::r) a) (fun _=>PX.turn (by decide)) (fun _=>?_);refine ek (PX ((c,p)::r) a) (fun _=>?_) (fun _=>?_)
     ·cases r with
      | nil=>exact PX.turn (by decide)
      | cons y r=>exact ek (PX ((c,p)::y::r) a) (fun _=>PX.turn (by decide)) (fun _=>PX.turn (by decide))
     ·refine ek (PX ((c,p)::r) a) (fun _=>PX.same.deep) (fun _=>?_)
      cases r with
      | nil=>exact PX.same.deep
      | cons y r=>exact(ox _ _ _ _ _).deep
    ·refine ek (PX ((c,p)::r) a) (fun _=>?_) (fun _=>?_)
     ·exact ek (PX ((c,p)::r) a) (fun _=>PX.turn (by decide)) (fun _=>(ox _ _ _ _ _).other (by decide))
     ·refine ek (PX ((c,p)::r) a) (fun _=>?_) (fun _=>ox _ _ _ _ _);exact ek (PX ((c,p)::r) a) (fun _=>PX.same.deep) (fun _=>(ox _ _ _ _ _).other (by decide))
theorem DF {l:List UInt8} {f k:Nat} {c:UInt8} (hk:f+2≤k) (h:(c,(f:Int))∈FT l k):c.toNat≠88:=by
  intro hc;obtain rfl:c=88:=dc.1 hc;obtain⟨k,rfl⟩:∃k',k=k'+1:=⟨k-1,by omega⟩;have hm:((88:UInt8),(f:Int))∈(fY l (k+1)).1:=by rw[jD];exact List.mem_append_left _ (by simpa [FT] using h)
  have hs:(fY l (k+1)).1=(eG (fY l k).1 (fY l k).2 (l.getD k 0) k).1:=rfl;rcases EU (fY l k).1 (fY l k).2 (l.getD k 0) k _ (by rw[←hs];exact hm) rfl with h1|h1
  ·have hv:=sa l k;have hx:=jD l k;have hnd:(eV (XT l k)).Nodup:=by rw[di];exact(xz l k).1.imp (fun h=>by omega)
   cases hst:(fY l k).1 with
   | nil=>rw[hst] at h1;cases h1
   | cons y r=>
     obtain⟨d,p⟩:=y;rw[hst] at h1 hv;rcases br.1 h1 with h2|h2
     ·simp only[Prod.mk.injEq] at h2;obtain⟨rfl,rfl⟩:=h2;have e:(eG (fY l k).1 (fY l k).2 (l.getD k 0) k).1=r:=by rw[hst];unfold eG dL;simp
      rw[hs,e] at hm;have hX:((88:UInt8),(f:Int))∈XT l k:=by
        have:((88:UInt8),(f:Int))∈(fY l k).1:=by rw[hst];exact db
        rw[hx] at this;rcases aZ.1 this with h3|h3
        ·exact h3
        ·simp at h3
      cases hXT:XT l k with
      | nil=>rw[hXT] at hX;cases hX
      | cons z Z=>
        rw[hXT] at hx hnd;rw[hst,bu] at hx;injection hx with hz hr
        subst hz;rw[hr] at hm;simp only[eV,cz,List.nodup_cons] at hnd;rcases aZ.1 hm with h3|h3
        ·exact hnd.1 (bX.2 ⟨_,h3,rfl⟩)
        ·simp at h3
     ·have:=hv.2 _ h2
      exact absurd (show zQ 88=true from this) (by decide)
  ·simp at h1;omega
theorem tP {l:List UInt8} {q:fh} (h:q∈eC l):∃f t:Nat,q.fr=f∧q.to=t∧f<t∧t≤l.length∧(q.mode≠12→q.op=false→f+2≤t)∧(q.op=true→t=l.length)∧(q.mode=13→t≤f+2):=by
  have h0:=h;rw[AL] at h;obtain⟨f,hf,hq⟩:=dG.1 h;have hf:=cI.1 hf;obtain⟨q0,hq0,rfl⟩:=bX.1 hq;have hp:=M7 hf hq0;have hto:=M6 hp;obtain⟨t,ht⟩:∃t:Nat,(nU l (l7 l (l.length-(f+1)) (f+2) q0)).to=t:=⟨_,(Int.toNat_of_nonneg (by omega)).symm⟩;refine⟨f,t,hp.fr,ht,by omega,by omega,?_,?_,?_⟩
  ·intro h12 hop;rcases hp.kind with ⟨_,h1|⟨_,e,h2,h3,h4,_⟩,_⟩|h1
   ·rw[h1.1] at hop;cases hop
   ·omega
   ·exact absurd h1.1 h12
  ·intro hop;rcases hp.kind with ⟨_,h1|⟨h2,_⟩,_⟩|h1
   ·have:=h1.2.1;omega
   ·rw[hop] at h2;cases h2
   ·rw[h1.2.1] at hop;cases hop
  ·intro h13;have hgone:¬kq l f (f+2)∨l.length≤f+1:=by
     have hal:=hp.al;obtain⟨A,c,hF,hs⟩:=FZ hal;rw[oE hF] at hq0;simp only[cE] at hq0;have i0:(eV (FT l (f+1)))[A.length]? = some (f:Int):=by rw[hF];simp[eV]
     have hop:q0.op=true:=by rw[hq0]
     have hfr:q0.fr=f:=by rw[hq0]
     have hse:=ot l f (A.length+1) (fun k hk hm=>lj l f A.length i0 k hk hm) (l.length-(f+1)) (f+2) q0 hop hfr (by omega);obtain⟨s1,s2,s3,s4⟩:=rk (FT l) f (A.length+1) (l.length-(f+1)) (f+2) {q0 with to:=l.length} hop;rw[show nU l (l7 l (l.length-(f+1)) (f+2) q0)=nV l (ls l.length (l7 l (l.length-(f+1)) (f+2) q0)) from rfl,←hse] at h13;generalize iT (FT l) f (A.length+1) (l.length-(f+1)) (f+2) {q0 with to:=l.length}=r at *;have hr:r.mode=13:=by
       unfold nV at h13;by_cases h12:r.mode=12
       ·rw[aD h12] at h13
        have:r.mode=13:=h13
        omega
       ·rw[aB h12] at h13;exact h13
     rcases s4 with ⟨_,h5|h5⟩|⟨e,h1,h2,h3,h4⟩
     ·exact .inl h5
     ·exact .inr (by omega)
     ·exfalso;rw[hr] at h4;have hc:=(Mb _).1 h4.symm;have h5:=lj l f A.length i0 e (by omega) h3;rw[dI] at hc;rw[bc] at h5
      cases hy:(FT l e)[A.length]? with
      | none=>rw[hy] at h5;cases h5
      | some y=>
        rw[hy] at h5;simp at h5;rw[aE,hy] at hc;exact DF (c:=y.1) h1 (by rw[←h5];exact aO hy) hc
   rcases hp.kind with ⟨_,⟨h1,h2,h3⟩|⟨_,e,h2,h3,h4,_,h6⟩,_⟩|h1
   ·rcases hgone with hg|hg
    ·have:¬(f+2≤l.length):=fun hh=>hg (h3 (f+2) (by omega) hh)
     omega
    ·omega
   ·rcases hgone with hg|hg
    ·have:¬(f+2<e):=fun hh=>hg (h6 (f+2) (by omega) hh)
     omega
    ·omega
   ·rw[h1.1] at h13;cases h13
structure Pc where
  ex:Bool
  qu:Bool
  tx:List UInt8
variable {a N:Nat} {q:fh} (l:List UInt8) (x:Nat) (P:List Pc) (p:UInt8→Bool) (L:List Pc) (t w d:List UInt8) (c:UInt8) (buf b:List UInt8) (i n k:Nat)
def sub (l:List UInt8) (a b:Nat):List UInt8:=(l.take b).drop a
def gE (L:List fh) (x:Nat):Option fh:=L.find? (fun q=>q.fr==(x:Int))
def eA (q:fh):Nat:=q.to.toNat
def jY (q:fh) (x:Nat):Bool:=decide (q.mode=12∧eA q=x+1)
def lc (q:fh):Nat:=if q.op=true then eA q else eA q-1
def uW (c:UInt8):Bool:=c.toNat==36||c.toNat==96||c.toNat==34||c.toNat==92
def ns (l:List UInt8) (q:fh) (x:Nat):List UInt8:=
  if eA q<x+2 then [] else if uW (l.getD (x+1) 0)=true then [l.getD (x+1) 0] else if (l.getD (x+1) 0).toNat=10 then [] else sub l x (eA q)
def oY (b:List UInt8):List Pc:=if b=[] then [] else [⟨false,false,b⟩]
def Cv (b:List UInt8):List Pc:=if b=[] then [] else [⟨false,true,b⟩]
def jx (l:List UInt8) (L:List fh) (e:Nat):Nat→Nat→List UInt8→Bool→List Pc
  | 0,_,_,_=>[]
  | m+1,x,here,ex=>
    if x<e then
      match gE L x with
      | none=>jx l L e m (x+1) (here++[l.getD x 0]) ex
      | some q=>
        if jY q x=true then jx l L e m (x+1) (here++[l.getD x 0]) ex
        else if q.mode=13 then jx l L e m (eA q) (here++ns l q x) ex
        else Cv here++⟨true,true,sub l x (eA q)⟩::jx l L e m (eA q) [] true
    else if here=[]∧ex=true then [] else [⟨false,true,here⟩]
def im (l:List UInt8) (L:List fh):Nat→Nat→List UInt8→List Pc
  | 0,_,buf=>oY buf
  | m+1,x,buf=>
    if x<l.length then
      match gE L x with
      | none=>im l L m (x+1) (buf++[l.getD x 0])
      | some q=>
        if jY q x=true∨q.mode=14 then im l L m (eA q) (buf++sub l x (eA q))
        else if q.mode=13 then
          (if sub l (x+1) (eA q)=[]∨sub l (x+1) (eA q)=[10] then im l L m (eA q) buf
           else oY buf++⟨false,true,sub l (x+1) (eA q)⟩::im l L m (eA q) [])
        else if q.mode=4 then oY buf++⟨false,true,sub l (x+1) (lc q)⟩::im l L m (eA q) []
        else if q.mode=5 then oY buf++(jx l L (lc q) (l.length+1) (x+1) [] false++im l L m (eA q) [])
        else oY buf++⟨true,false,sub l x (eA q)⟩::im l L m (eA q) []
    else oY buf
def lH (l:List UInt8):List Pc:=im l (eC l) (l.length+1) 0 []
def tN (out:List Pc) (t:List UInt8) (fresh:Bool):List Pc:=
  match out.getLast? with
  | some p=>if fresh=false then out.dropLast++[⟨false,false,p.tx++t⟩] else out++[⟨false,false,t⟩]
  | none=>out++[⟨false,false,t⟩]
def qN (l:List UInt8) (L:List fh) (e:Nat):Nat→Nat→List UInt8→List Pc→List Pc
  | 0,_,_,out=>out
  | m+1,x,here,out=>
    if x<e then
      match gE L x with
      | none=>qN l L e m (x+1) (here++sub l x (x+1)) out
      | some q=>
        if jY q x=true then qN l L e m (x+1) (here++sub l x (x+1)) out
        else if q.mode=13 then
          qN l L e m (eA q) (if eA q=x+2 then (if uW (l.getD (x+1) 0)=true then here++sub l (x+1) (x+2) else if (l.getD (x+1) 0).toNat=10 then here else here++sub l x (x+2)) else here) out
        else qN l L e m (eA q) [] ((if here=[] then out else out++[⟨false,true,here⟩])++[⟨true,true,sub l x (eA q)⟩])
    else if here=[]∧out≠[] then out else out++[⟨false,true,here⟩]
def pj (l:List UInt8) (L:List fh):Nat→Nat→List Pc→Bool→List Pc
  | 0,_,out,_=>out
  | m+1,x,out,fresh=>
    if x<l.length then
      match gE L x with
      | none=>pj l L m (x+1) (tN out (sub l x (x+1)) fresh) false
      | some q=>
        if q.mode=14∨jY q x=true then pj l L m (eA q) (tN out (sub l x (eA q)) fresh) false
        else if q.mode=13 then
          (if eA q=x+2∧(l.getD (x+1) 0).toNat≠10 then pj l L m (eA q) (out++[⟨false,true,sub l (x+1) (eA q)⟩]) true
           else pj l L m (eA q) out fresh)
        else if q.mode=4 then pj l L m (eA q) (out++[⟨false,true,sub l (x+1) (lc q)⟩]) true
        else if q.mode=5 then pj l L m (eA q) (out++qN l L (lc q) (l.length+1) (x+1) [] []) true
        else pj l L m (eA q) (out++[⟨true,false,sub l x (eA q)⟩]) true
    else out
theorem pQ {l:List UInt8} {x:Nat} (h:x<l.length):sub l x (x+1)=[l.getD x 0]:=by
  unfold sub;rw[bM h,List.drop_append_of_le_length (by simp;omega),List.drop_of_length_le (by simp;omega),aE,ax h];rfl
theorem lJ {l:List UInt8} {b:Nat} (h:b≤l.length):(sub l a b).length=b-a:=by unfold sub;simp;omega
structure PL (l:List UInt8) (L:List fh):Prop where
  two:∀q∈L,∃f t:Nat,q.fr=f∧q.to=t∧f<t∧t≤l.length∧(q.mode≠12→q.op=false→f+2≤t)∧(q.op=true→t=l.length)∧(q.mode=13→t≤f+2)
theorem lm:PL l (eC l):=⟨fun q h=>tP h⟩
theorem gv {l:List UInt8} {L:List fh} (hL:PL l L) {x:Nat} (h:gE L x=some q):q∈L∧q.fr=x∧q.to=eA q∧x<eA q∧eA q≤l.length∧(q.mode≠12→q.op=false→x+2≤eA q)∧(q.op=true→eA q=l.length)∧(q.mode=13→eA q≤x+2):=by
  have h1:=List.mem_of_find?_eq_some h;have h2:q.fr=x:=by have:=List.find?_some h;simpa using this
  obtain⟨f,t,a,b,c,d,e,g,i⟩:=hL.two q h1;have e1:eA q=t:=by unfold eA;omega
  have e2:f=x:=by omega
  subst e2;rw[e1];exact⟨h1,h2,b,c,d,e,g,i⟩
theorem lw {l:List UInt8} {L:List fh} (hL:PL l L) (e:Nat) (he:e≤l.length):∀(m x:Nat) (here:List UInt8) (out:List Pc),qN l L e m x here out=out++jx l L e m x here (decide (out≠[]))
  | 0,_,_,out=>by simp[qN,jx]
  | m+1,x,here,out=>by
    unfold qN jx;by_cases hx:x<e
    ·rw[aD hx,aD hx]
     cases hf:gE L x with
     | none=>simp only;rw[pQ (by omega)];exact lw hL e he m _ _ _
     | some q=>
       obtain⟨_,hfr,hto,hlt,hle,h2,_,h13⟩:=gv hL hf;simp only;by_cases hlone:jY q x=true
       ·rw[aD hlone,aD hlone,pQ (by omega)];exact lw hL e he m _ _ _
       ·rw[aB hlone,aB hlone];by_cases hm:q.mode=13
        ·rw[aD hm,aD hm];have e1:(if eA q=x+2 then (if uW (l.getD (x+1) 0)=true then here++sub l (x+1) (x+2) else if (l.getD (x+1) 0).toNat=10 then here else here++sub l x (x+2)) else here)=here++ns l q x:=by
           unfold ns
           have:=h13 hm
           by_cases h22:eA q=x+2
           ·have e2:sub l (x+1) (x+2)=[l.getD (x+1) 0]:=pQ (x:=x+1) (by omega);rw[h22,e2];generalize l.getD (x+1) 0=c;by_cases hb:uW c=true
            ·simp[hb]
            ·by_cases h10:c.toNat=10
             ·simp[hb,h10]
             ·simp[hb,h10]
           ·have h3:eA q<x+2:=by omega
            simp[h22,h3]
         rw[e1];exact lw hL e he m _ _ _
        ·rw[aB hm,aB hm,lw hL e he m];have e1:decide (((if here=[] then out else out++[(⟨false,true,here⟩:Pc)])++[(⟨true,true,sub l x (eA q)⟩:Pc)])≠[])=true:=by simp
         rw[e1];unfold Cv;by_cases hh:here=[]
         ·rw[aD hh,aD hh];simp
         ·rw[aB hh,aB hh];simp
    ·rw[aB hx,aB hx];by_cases hh:here=[]∧out≠[]
     ·rw[aD hh,aD ⟨hh.1,by simpa using hh.2⟩];simp
     ·rw[aB hh,aB (fun h=>hh ⟨h.1,by simpa using h.2⟩)]
theorem Lr (t:List UInt8) (ht:t≠[]):tN (P++oY buf) t buf.isEmpty=P++oY (buf++t):=by
  unfold oY;rw[aB (show buf++t≠[] by simp[ht])]
  cases buf with
  | nil=>
    unfold tN;rw[aD rfl,bz]
    cases P.getLast? <;> simp
  | cons b buf=>
    unfold tN;rw[aB (by simp)];simp
theorem nJ {l:List UInt8} {L:List fh} (hL:PL l L):∀(m x:Nat) (P:List Pc) (buf:List UInt8),pj l L m x (P++oY buf) buf.isEmpty=P++im l L m x buf
  | 0,_,P,buf=>rfl
  | m+1,x,P,buf=>by
    unfold pj im;by_cases hx:x<l.length
    ·rw[aD hx,aD hx];have hgo:∀(t:List UInt8) (y:Nat),t≠[]→pj l L m y (tN (P++oY buf) t buf.isEmpty) false=P++im l L m y (buf++t):=by
       intro t y ht;rw[Lr P buf t ht]
       have:=nJ hL m y P (buf++t)
       rwa [show (buf++t).isEmpty=false by cases buf<;>cases t<;>simp_all] at this
     have hnew:∀(Y:List Pc) (y:Nat),pj l L m y (P++oY buf++Y) true=P++(oY buf++(Y++im l L m y [])):=by
       intro Y y
       have:=nJ hL m y (P++oY buf++Y) []
       rw[show oY []=([]:List Pc) from rfl,bz] at this;rw[show ([]:List UInt8).isEmpty=true from rfl] at this;rw[this];simp
     cases hf:gE L x with
     | none=>simp only;rw[pQ hx];exact hgo _ _ (by simp)
     | some q=>
       obtain⟨_,hfr,hto,hlt,hle,h2,_,h13⟩:=gv hL hf;have hne:sub l x (eA q)≠[]:=by intro h;have:=lJ (a:=x) hle;rw[h] at this;simp at this;omega
       simp only;by_cases hlone:jY q x=true∨q.mode=14
       ·rw[aD hlone.symm,aD hlone];exact hgo _ _ hne
       ·rw[aB (fun h=>hlone h.symm),aB hlone];by_cases hm:q.mode=13
        ·rw[aD hm,aD hm];have h3:=h13 hm;by_cases h22:eA q=x+2
         ·have hs:sub l (x+1) (eA q)=[l.getD (x+1) 0]:=by rw[h22];exact pQ (by omega)
          rw[hs];by_cases h10:(l.getD (x+1) 0).toNat=10
          ·rw[aB (by intro h;exact h.2 h10),aD (.inr (by rw[show l.getD (x+1) 0=10 from dc.1 h10]))];exact nJ hL m _ P buf
          ·rw[aD ⟨h22,h10⟩,aB (by rintro (h|h);cases h;injection h with h _;exact h10 (by rw[h];rfl))];exact hnew [_] _
         ·have hs:sub l (x+1) (eA q)=[]:=bP (by rw[lJ hle];omega);rw[aB (fun h=>h22 h.1),aD (.inl hs)];exact nJ hL m _ P buf
        ·rw[aB hm,aB hm];by_cases h4:q.mode=4
         ·rw[aD h4,aD h4];exact hnew [_] _
         ·rw[aB h4,aB h4];by_cases h5:q.mode=5
          ·rw[aD h5,aD h5,lw hL _ (by unfold lc;split<;>omega)];exact hnew _ _
          ·rw[aB h5,aB h5];exact hnew [_] _
    ·rw[aB hx,aB hx]
theorem Lu:pj l (eC l) (l.length+1) 0 [] true=lH l:=nJ (lm l) (l.length+1) 0 [] []
def pL (L:List Pc):List UInt8:=L.flatMap (·.tx)
theorem tr (x:Pc):pL (L++[x])=pL L++x.tx:=by simp[pL]
theorem sM:∀(L:List Pc) (N:Nat),(∀x∈L,x.tx.length≤N)→(pL L).length≤L.length*N
  | [],_,_=>by simp[pL]
  | x::r,N,h=>by
    have h1:=sM r N (fun y hy=>h y (bG _ hy));have h2:=h x db;have e:(pL (x::r)).length=x.tx.length+(pL r).length:=by simp[pL]
    rw[e,aP,Nat.succ_mul];omega
theorem Eb {L:List Pc} {k:Nat} {x:Pc} (h:L[k]? = some x):pL (L.take (k+1))=pL (L.take k)++x.tx:=by
  obtain⟨h1,h2⟩:=ay.1 h;rw[bM h1,h2,tr]
theorem Ea (N:Nat) (h:∀x∈L,x.tx.length≤N):(pL (L.take k)).length≤L.length*N:=by
  have h1:=sM (L.take k) N (fun x hx=>h x (cN hx));have h2:(L.take k).length≤L.length:=by simp;omega
  exact aA h1 (dh N h2)
def qz (b:List UInt8):Nat:=if b=[] then 0 else 1
theorem qy:qz b≤1:=by unfold qz;split<;>omega
theorem oN:(oY b).length=qz b:=by unfold oY qz;split<;>rfl
theorem JM:(Cv b).length=qz b:=by unfold Cv qz;split<;>rfl
theorem mY {l:List UInt8} {L:List fh} (hL:PL l L) (e:Nat):∀(m x:Nat) (here:List UInt8) (ex:Bool),(jx l L e m x here ex).length≤2*(e-x)+1+qz here
  | 0,_,_,_=>by simp[jx]
  | m+1,x,here,ex=>by
    unfold jx;by_cases hx:x<e
    ·rw[aD hx]
     cases hf:gE L x with
     | none=>
       have h1:=mY hL e m (x+1) (here++[l.getD x 0]) ex;have h2:=qy (here++[l.getD x 0]);simp only;omega
     | some q=>
       obtain⟨_,hfr,hto,hlt,hle,_⟩:=gv hL hf;simp only;split
       ·have h1:=mY hL e m (x+1) (here++[l.getD x 0]) ex;have h2:=qy (here++[l.getD x 0]);omega
       ·split
        ·have h1:=mY hL e m (eA q) (here++ns l q x) ex;have h2:=qy (here++ns l q x);omega
        ·have h1:=mY hL e m (eA q) [] true;rw[aH,aP,JM];simp only[qz,bQ] at h1 ⊢;omega
    ·rw[aB hx];split
     ·simp
     ·simp only[aP,bI];omega
theorem nK {l:List UInt8} {L:List fh} (hL:PL l L):∀(m x:Nat) (buf:List UInt8),(im l L m x buf).length≤2*(l.length-x)+qz buf
  | 0,_,buf=>by simp[im,oN]
  | m+1,x,buf=>by
    unfold im;by_cases hx:x<l.length
    ·rw[aD hx];have hn:∀y,(im l L m y []).length≤2*(l.length-y):=fun y=>by have:=nK hL m y [];simpa [qz] using this
     cases hf:gE L x with
     | none=>
       have h1:=nK hL m (x+1) (buf++[l.getD x 0]);have h2:=qy (buf++[l.getD x 0]);simp only;omega
     | some q=>
       obtain⟨_,hfr,hto,hlt,hle,h2,_⟩:=gv hL hf;have h3:=hn (eA q);simp only;split
       ·have h1:=nK hL m (eA q) (buf++sub l x (eA q));have h2:=qy (buf++sub l x (eA q));omega
       ·split
        ·split
         ·have h1:=nK hL m (eA q) buf;omega
         ·rw[aH,aP,oN];omega
        ·split
         ·rw[aH,aP,oN];omega
         ·split
          ·rename_i h5;have h4:=mY hL (lc q) (l.length+1) (x+1) [] false;have h6:lc q≤eA q:=by unfold lc;split<;>omega
           simp only[qz,bQ] at h4;rw[aH,aH,oN];omega
          ·rw[aH,aP,oN];omega
    ·rw[aB hx,oN];omega
theorem tO:(lH l).length≤2*l.length:=by
  have:=nK (lm l) (l.length+1) 0 []
  simpa [qz,lH] using this
theorem iI (a b:Nat):(sub l a b).length≤b-a:=by unfold sub;simp;omega
theorem JS {l:List UInt8} {x:Nat} (h:x<eA q) (h2:eA q≤x+2∨True):(ns l q x).length≤eA q-x:=by
  unfold ns;split
  ·simp
  ·split
   ·simp;omega
   ·split
    ·simp
    ·exact iI _ _ _
theorem xc {b:List UInt8} (h:b.length≤N):∀p∈oY b,p.tx.length≤N:=by
  intro p hp;unfold oY at hp;split at hp
  ·cases hp
  ·simp at hp;subst hp;exact h
theorem LW {b:List UInt8} (h:b.length≤N):∀p∈Cv b,p.tx.length≤N:=by
  intro p hp;unfold Cv at hp;split at hp
  ·cases hp
  ·simp at hp;subst hp;exact h
theorem pG {l:List UInt8} {L:List fh} (hL:PL l L) (e:Nat) (he:e≤l.length):∀(m x:Nat) (here:List UInt8) (ex:Bool),here.length≤x→x≤l.length→∀p∈jx l L e m x here ex,p.tx.length≤l.length
  | 0,_,_,_,_,_=>by intro p hp;cases hp
  | m+1,x,here,ex,hh,hxl=>by
    unfold jx;by_cases hx:x<e
    ·rw[aD hx]
     cases hf:gE L x with
     | none=>exact pG hL e he m (x+1) _ ex (by simp;omega) (by omega)
     | some q=>
       obtain⟨_,hfr,hto,hlt,hle,_⟩:=gv hL hf;simp only;split
       ·exact pG hL e he m (x+1) _ ex (by simp;omega) (by omega)
       ·split
        ·exact pG hL e he m (eA q) _ ex (by have:=JS (l:=l) hlt (.inr trivial);simp;omega) hle
        ·intro p hp;rcases aZ.1 hp with hp|hp
         ·exact LW (by omega) p hp
         ·rcases br.1 hp with rfl|hp
          ·have:=iI l x (eA q);simp only;omega
          ·exact pG hL e he m (eA q) [] true (by simp) hle p hp
    ·rw[aB hx];split
     ·intro p hp;cases hp
     ·intro p hp;simp at hp;subst hp;simp only;omega
theorem qi {l:List UInt8} {L:List fh} (hL:PL l L):∀(m x:Nat) (buf:List UInt8),buf.length≤x→x≤l.length→∀p∈im l L m x buf,p.tx.length≤l.length
  | 0,_,buf,h,hx=>xc (by omega)
  | m+1,x,buf,h,hxl=>by
    unfold im;by_cases hx:x<l.length
    ·rw[aD hx]
     cases hf:gE L x with
     | none=>exact qi hL m (x+1) _ (by simp;omega) (by omega)
     | some q=>
       obtain⟨_,hfr,hto,hlt,hle,h2,_⟩:=gv hL hf;have hn:=qi hL m (eA q) [] (by simp) hle;have hone:∀(y:Pc),y.tx.length≤l.length→∀p∈oY buf++y::im l L m (eA q) [],p.tx.length≤l.length:=by
         intro y hy p hp;rcases aZ.1 hp with hp|hp
         ·exact xc (by omega) p hp
         ·rcases br.1 hp with rfl|hp
          ·exact hy
          ·exact hn p hp
       have hend:lc q≤eA q:=by unfold lc;split<;>omega
       simp only;split
       ·exact qi hL m (eA q) _ (by have:=iI l x (eA q);simp;omega) hle
       ·split
        ·split
         ·exact qi hL m (eA q) buf (by omega) hle
         ·exact hone _ (by have:=iI l (x+1) (eA q);simp only;omega)
        ·split
         ·exact hone _ (by have:=iI l (x+1) (lc q);simp only;omega)
         ·split
          ·intro p hp;rcases aZ.1 hp with hp|hp
           ·exact xc (by omega) p hp
           ·rcases aZ.1 hp with hp|hp
            ·exact pG hL (lc q) (by omega) _ (x+1) [] false (by simp) (by omega) p hp
            ·exact hn p hp
          ·exact hone _ (by have:=iI l x (eA q);simp only;omega)
    ·rw[aB hx];exact xc (by omega)
theorem sS:∀p∈lH l,p.tx.length≤l.length:=qi (lm l) (l.length+1) 0 [] (by simp) (by omega)
def gO:Nat→List UInt8
  | 1=>[38,38]|2=>[124,124]|3=>[59,59]|4=>[60,60]|5=>[60,60,45]|6=>[62,62]|7=>[60,38]|8=>[62,38]|9=>[60,62]
  | 10=>[62,124]|11=>[60]|12=>[62]|13=>[38]|14=>[59]|15=>[124]|16=>[40]|17=>[41]|_=>[]
def ib (w:List UInt8):Nat→Nat→Nat
  | 0,_=>0
  | m+1,k=>if gO k=w then k else ib w m (k+1)
def iu (w:List UInt8):Nat:=if w=[] then 0 else ib w 17 1
def sc (d:List UInt8):Nat→Nat×Nat
  | 0=>(0,0)
  | n+1=>if iu (d.take (n+1))≠0 then (iu (d.take (n+1)),n+1) else sc d n
def fp (l:List UInt8) (x:Nat):Nat×Nat:=if eT (l.getD x 0)≠3 then (0,0) else sc (l.drop x) (min 3 (l.length-x))
def gW (d:List UInt8):Nat→Nat
  | 0=>0
  | k+1=>if (gO (k+1)).isPrefixOf d=true∧(gO (gW d k)).length<(gO (k+1)).length then k+1 else gW d k
def uK:List UInt8:=[38,124,59,60,62,45,40,41]
def yI (c:UInt8):UInt8:=if uK.contains c then c else 0
theorem pB:∀k,∀c∈gO k,c∈uK:=by
  intro k;by_cases h:k<18
  ·have:((List.range 18).all fun k=>(gO k).all fun c=>uK.contains c)=true:=by decide +kernel
   have h2:=bS.1 this k (cI.2 h);intro c hc
   have:=bS.1 h2 c hc
   simpa using this
  ·intro c hc
   have:gO k=[]:=by unfold gO;split<;>first|omega|rfl
   rw[this] at hc
   cases hc
theorem FW {c d:UInt8} (h:c∈uK):c=yI d↔c=d:=by
  unfold yI;constructor
  ·intro e;split at e
   ·exact e
   ·subst e;exact absurd h (by decide)
  ·intro e;subst e;rw[aD (by simpa using h)]
theorem wT:∀(t w:List UInt8),(∀c∈t,c∈uK)→(t=w.map yI↔t=w)
  | [],[],_=>by simp
  | [],_::_,_=>by simp
  | _::_,[],_=>by simp
  | a::t,b::w,h=>by
    have h1:=wT t w (fun c hc=>h c (bG _ hc));have h2:=FW (d:=b) (h a db);simp only[cz,List.cons.injEq,h1,h2]
theorem B7:∀(t w:List UInt8),(∀c∈t,c∈uK)→t.isPrefixOf (w.map yI)=t.isPrefixOf w
  | [],_,_=>by simp
  | _::_,[],_=>rfl
  | a::t,b::w,h=>by
    have h1:=B7 t w (fun c hc=>h c (bG _ hc));have h2:=FW (d:=b) (h a db);simp only[cz,List.isPrefixOf,h1];congr 1;by_cases e:a=b
    ·subst e;simp[h2]
    ·have:¬a=yI b:=fun h=>e (h2.1 h)
     rw[az.2 e,az.2 this]
theorem tV (w:List UInt8):∀m k,ib (w.map yI) m k=ib w m k
  | 0,_=>rfl
  | m+1,k=>by
    unfold ib;rw[tV w m];by_cases e:gO k=w
    ·rw[aD e,aD ((wT _ _ (pB k)).2 e)]
    ·rw[aB e,aB (fun h=>e ((wT _ _ (pB k)).1 h))]
theorem FM:iu (w.map yI)=iu w:=by
  unfold iu;rw[tV];by_cases e:w=[]
  ·subst e;rfl
  ·rw[aB e,aB (by simpa using e)]
theorem Ch (d:List UInt8):∀n,sc (d.map yI) n=sc d n
  | 0=>rfl
  | n+1=>by
    unfold sc;rw[←List.map_take,FM,Ch d n]
theorem tW (d:List UInt8):∀k,gW (d.map yI) k=gW d k
  | 0=>rfl
  | k+1=>by
    unfold gW;rw[tW d k,B7 _ _ (pB _)]
theorem nL:(gO k).length≤3:=by
  unfold gO;split<;>simp
theorem Fb (h:t.length≤n):t.isPrefixOf (w.take n)=t.isPrefixOf w:=by
  induction t generalizing w n with
  | nil=>simp
  | cons a t ih=>
    cases w with
    | nil=>simp
    | cons b w=>
      cases n with
      | zero=>simp at h
      | succ n=>simp only[cF,List.isPrefixOf];rw[ih w n (by simpa using h)]
theorem sd (d:List UInt8):∀k,gW (d.take 3) k=gW d k
  | 0=>rfl
  | k+1=>by
    unfold gW;rw[sd d k,Fb _ _ _ (nL _)]
theorem yE (d:List UInt8) (m:Nat):∀n,n≤m→sc (d.take m) n=sc d n
  | 0,_=>rfl
  | n+1,h=>by
    unfold sc;rw[yE d m n (by omega),List.take_take,de h]
def lW (d:List UInt8):Bool:=(gW d 17==(sc d (min 3 d.length)).1)&&((gO (sc d (min 3 d.length)).1).length==(sc d (min 3 d.length)).2)&&(eT (d.getD 0 0)==3||gW d 17==0)&&(eT (d.getD 0 0)!=3||(sc d (min 3 d.length)).2 != 0)
def pK:List UInt8:=0::uK
theorem AU:(pK.all fun a=>lW [a])=true:=by decide +kernel
theorem AS:(pK.all fun a=>pK.all fun b=>lW [a,b])=true:=by decide +kernel
theorem wP:(pK.all fun a=>pK.all fun b=>pK.all fun c=>lW [a,b,c])=true:=by decide +kernel
theorem oD:yI c∈pK:=by
  unfold yI;split
  ·rename_i h;exact bG _ (by simpa using h)
  ·exact db
theorem CF:(eT (yI c)==3)=(eT c==3):=by
  have:=fg (fun c=>(eT (yI c)==3)==(eT c==3)) (by decide +kernel) c
  simpa using this
theorem AV (hd:d≠[]) (h:lW (d.map yI)=true):lW d=true:=by
  unfold lW at h ⊢;have e:(d.map yI).getD 0 0=yI (d.getD 0 0):=by
    cases d with
    | nil=>exact absurd rfl hd
    | cons a r=>rfl
  rw[tW,cH,Ch,e,CF] at h;have e2:(eT (yI (d.getD 0 0))!=3)=(eT (d.getD 0 0)!=3):=by unfold bne;rw[CF]
  rw[e2] at h;exact h
theorem AW (hd:d≠[]):lW d=true:=by
  have hs:lW (d.take 3)=true:=by
    refine AV _ (by cases d<;>simp_all) ?_
    match d,hd with
    | [a],_=>exact bS.1 AU _ (oD a)
    | [a,b],_=>exact bS.1 (bS.1 AS _ (oD a)) _ (oD b)
    | a::b::c::r,_=>exact bS.1 (bS.1 (bS.1 wP _ (oD a)) _ (oD b)) _ (oD c)
  unfold lW at hs ⊢;have e:(d.take 3).getD 0 0=d.getD 0 0:=by cases d<;>rfl
  have e2:min 3 (d.take 3).length=min 3 d.length:=by simp
  rw[sd,e2,yE _ _ _ (by omega),e] at hs;exact hs
theorem oC (hx:x<l.length):gW (l.drop x) 17=(fp l x).1∧(gO (fp l x).1).length=(fp l x).2∧(0<(fp l x).2↔eT (l.getD x 0)=3):=by
  have hd:l.drop x≠[]:=by intro h;have:=congrArg List.length h;simp at this;omega
  have h:=AW _ hd;have e:(l.drop x).getD 0 0=l.getD x 0:=by simp[aE]
  unfold lW at h;rw[e,List.length_drop] at h;simp only[aT,aR,dm,bne_iff_ne] at h;obtain⟨⟨⟨h1,h2⟩,h3⟩,h4⟩:=h;unfold fp;by_cases hc:eT (l.getD x 0)=3
  ·rw[aB (fun h=>h hc)];refine⟨h1,h2,fun _=>hc,fun _=>?_⟩;rcases h4 with h4|h4
   ·exact absurd hc h4
   ·omega
  ·rw[aD hc];refine⟨?_,rfl,fun h=>by simp at h,fun h=>absurd h hc⟩;rcases h3 with h3|h3
   ·exact absurd h3 hc
   ·exact h3
def gD (l:List UInt8) (x:Nat):Nat:=x+((l.drop x).takeWhile fun c=>c.toNat != 10).length
def jR (t:Bool) (b:List UInt8):List UInt8:=if t=true then b.dropWhile (fun c=>c.toNat==9) else b
def ke (l:List UInt8) (x:Nat):Nat:=if gD l x<l.length then gD l x+1 else gD l x
def uh (l w:List UInt8) (t:Bool):Nat→Nat→Nat×Bool
  | 0,x=>(x,false)
  | m+1,x=>if x<l.length then (if jR t (sub l x (gD l x))=w then (ke l x,true) else uh l w t m (ke l x)) else (x,false)
def gm (l:List UInt8) (x:Nat) (w:List UInt8) (t:Bool):Nat×Bool:=uh l w t (l.length-x) x
theorem nP (h:x≤l.length):x≤gD l x∧gD l x≤l.length:=by
  unfold gD
  have:=(List.takeWhile_prefix (l:=l.drop x) (fun c=>c.toNat != 10)).length_le
  simp at this;omega
theorem qF (h:x<l.length):x<ke l x∧ke l x≤l.length:=by
  have h1:=nP l x (by omega);unfold ke;split
  ·omega
  ·constructor
   ·have:gD l x=l.length:=by omega
    omega
   ·omega
theorem ug (l w:List UInt8) (t:Bool):∀(m m' x:Nat),l.length-x≤m→l.length-x≤m'→uh l w t m x=uh l w t m' x
  | 0,m',x,h,h'=>by
    cases m' with
    | zero=>rfl
    | succ m'=>unfold uh;rw[aB (by omega)]
  | m+1,0,x,h,h'=>by unfold uh;rw[aB (by omega)]
  | m+1,m'+1,x,h,h'=>by
    unfold uh;by_cases hx:x<l.length
    ·have:=qF l x hx
     rw[aD hx,aD hx,ug l w t m m' (ke l x) (by omega) (by omega)]
    ·rw[aB hx,aB hx]
theorem kh (t:Bool):gm l x w t=if x<l.length then (if jR t (sub l x (gD l x))=w then (ke l x,true) else gm l (ke l x) w t) else (x,false):=by
  unfold gm;by_cases hx:x<l.length
  ·have:=qF l x hx
   obtain⟨m,hm⟩:∃m,l.length-x=m+1:=⟨l.length-x-1,by omega⟩;rw[hm];show (if x<l.length then _ else _)=_;rw[aD hx,aD hx,ug l w t m (l.length-ke l x) (ke l x) (by omega) (au _)]
  ·rw[aB hx,show l.length-x=0 by omega];rfl
theorem zh (t:Bool):∀(m x:Nat),l.length-x=m→x<l.length→x<(gm l x w t).1∧(gm l x w t).1≤l.length∧((gm l x w t).2=false→(gm l x w t).1=l.length):=by
  intro m
  induction m using Nat.strongRecOn with
  | _ m ih=>
    intro x hm hx;rw[kh,aD hx]
    have:=qF l x hx
    by_cases hw:jR t (sub l x (gD l x))=w
    ·rw[aD hw];exact⟨this.1,this.2,fun h=>by cases h⟩
    ·rw[aB hw];by_cases hy:ke l x<l.length
     ·have h2:=ih (l.length-ke l x) (by omega) (ke l x) rfl hy;exact⟨by omega,h2.2.1,h2.2.2⟩
     ·rw[kh,aB hy];exact⟨this.1,this.2,fun _=>by show ke l x=_;omega⟩
def gN (c:UInt8):Bool:=c.toNat==32||c.toNat==9
def gS (l:List UInt8) (x:Nat):Bool:=x+1<l.length&&(l.getD x 0).toNat==92&&(l.getD (x+1) 0).toNat==10
def oe (l:List UInt8):Nat→Nat→Nat
  | 0,x=>x
  | m+1,x=>if x<l.length then (if gN (l.getD x 0)=true then oe l m (x+1) else if gS l x=true then oe l m (x+2) else x) else x
def fF (l:List UInt8) (x:Nat):Nat:=oe l (l.length-x) x
theorem lS (l:List UInt8):∀(m m' x:Nat),l.length-x≤m→l.length-x≤m'→oe l m x=oe l m' x
  | 0,m',x,h,h'=>by
    cases m' with
    | zero=>rfl
    | succ m'=>unfold oe;rw[aB (by omega)]
  | m+1,0,x,h,h'=>by unfold oe;rw[aB (by omega)]
  | m+1,m'+1,x,h,h'=>by
    unfold oe;rw[lS l m m' (x+1) (by omega) (by omega),lS l m m' (x+2) (by omega) (by omega)]
theorem ll:fF l x=if x<l.length then (if gN (l.getD x 0)=true then fF l (x+1) else if gS l x=true then fF l (x+2) else x) else x:=by
  unfold fF;by_cases hx:x<l.length
  ·obtain⟨m,hm⟩:∃m,l.length-x=m+1:=⟨l.length-x-1,by omega⟩;rw[hm];show (if x<l.length then _ else _)=_;rw[aD hx,aD hx,lS l m (l.length-(x+1)) (x+1) (by omega) (au _),lS l m (l.length-(x+2)) (x+2) (by omega) (au _)]
  ·rw[aB hx,show l.length-x=0 by omega];rfl
theorem mG:∀(m x:Nat),l.length-x=m→x≤l.length→x≤fF l x∧fF l x≤l.length:=by
  intro m
  induction m using Nat.strongRecOn with
  | _ m ih=>
    intro x hm hx;rw[ll];by_cases hl:x<l.length
    ·rw[aD hl];split
     ·have:=ih (l.length-(x+1)) (by omega) (x+1) rfl (by omega);omega
     ·split
      ·rename_i hc;have hc2:x+1<l.length:=by unfold gS at hc;simp at hc;exact hc.1.1
       have:=ih (l.length-(x+2)) (by omega) (x+2) rfl (by omega);omega
      ·omega
    ·rw[aB hl];omega
theorem rT (hx:x<l.length):x<fF l x↔gN (l.getD x 0)=true∨gS l x=true:=by
  rw[ll,aD hx];split
  ·rename_i h
   have:=mG l _ (x+1) rfl (by omega)
   exact⟨fun _=>.inl h,fun _=>by omega⟩
  ·rename_i h;split
   ·rename_i hc;have hc2:x+1<l.length:=by unfold gS at hc;simp at hc;exact hc.1.1
    have:=mG l _ (x+2) rfl (by omega)
    exact⟨fun _=>.inr hc,fun _=>by omega⟩
   ·rename_i hc;exact⟨fun h2=>by omega,fun h2=>by rcases h2 with h2|h2;exact absurd h2 h;exact absurd h2 hc⟩
abbrev l8 (l:List UInt8) (x:Nat):Nat:=fN gz l x
def mq (l:List UInt8) (x:Nat):Bool:=decide (0<l8 l x)&&decide (x+l8 l x<l.length)&&((l.getD (x+l8 l x) 0).toNat==60||(l.getD (x+l8 l x) 0).toNat==62)
structure Tk where
  kd:Nat
  fr:Nat
  to:Nat
  op:Bool
abbrev Dl:=List UInt8×Bool
structure Lx where
  aw:Int
  pd:List Dl
  bd:Bool
def lK (w:List UInt8):Bool:=decide (Mc (fY w w.length).1=[])
def fE (l:List UInt8) (x:Nat):Tk:=
  if gN (l.getD x 0)=true∨gS l x=true then ⟨1,x,fF l x,false⟩
  else if (l.getD x 0).toNat=10 then ⟨2,x,x+1,false⟩
  else if (l.getD x 0).toNat=35 then ⟨3,x,gD l x,false⟩
  else if 0<(fp l x).2 then ⟨4,x,x+(fp l x).2,false⟩
  else if mq l x=true then ⟨5,x,x+l8 l x,false⟩
  else ⟨6,x,x+js l x,!lK (sub l x (x+js l x))⟩
def fB (t:List UInt8) (k:Nat) (X:Lx):Lx:=
  if k=1 then ⟨X.aw,X.pd,false⟩
  else if k=2 then ⟨0,X.pd,!X.pd.isEmpty⟩
  else if k=4 then ⟨if iu t=4∨iu t=5 then (iu t:Int) else 0,X.pd,false⟩
  else if k=6 then ⟨0,if X.aw≠0 then X.pd++[(pL (lH t),decide (X.aw=5))] else X.pd,false⟩
  else ⟨0,X.pd,false⟩
def nY (l:List UInt8) (x:Nat) (X:Lx) (d:Dl) (r:List Dl):Tk×Lx:=
  if (gm l x d.1 d.2).2=true then (⟨7,x,(gm l x d.1 d.2).1,false⟩,⟨X.aw,r,!r.isEmpty⟩) else (⟨7,x,(gm l x d.1 d.2).1,true⟩,X)
def eZ (l:List UInt8) (x:Nat) (X:Lx):Tk×Lx:=
  match X.bd,X.pd with
  | true,d::r=>nY l x X d r
  | _,_=>(fE l x,fB (sub l x (fE l x).to) (fE l x).kd X)
def oV (l:List UInt8):Nat→Nat→Lx→List Tk×Lx
  | 0,_,X=>([],X)
  | m+1,x,X=>if x<l.length then ((eZ l x X).1::(oV l m (eZ l x X).1.to (eZ l x X).2).1,(oV l m (eZ l x X).1.to (eZ l x X).2).2) else ([],X)
def yO:Lx:=⟨0,[],false⟩
def iX (l:List UInt8):List Tk×Lx:=oV l (l.length+1) 0 yO
theorem vg (h:x≤l.length):sub l x (x+n)=(l.drop x).take n:=by unfold sub;rw[List.drop_take];congr 1;omega
theorem rH:(l.drop x).getD i 0=l.getD (x+i) 0:=by simp[aE]
theorem BL (p:UInt8→Bool):∀(m:List UInt8),(m.takeWhile p).length<m.length→p (m.getD (m.takeWhile p).length 0)=false
  | [],h=>by simp at h
  | b::m,h=>by
    by_cases hb:p b=true
    ·rw[cS,aD hb] at h ⊢;exact BL p m (by simpa using h)
    ·rw[cS,aB hb];simpa using hb
theorem BK (p:UInt8→Bool):∀(m:List UInt8) (k:Nat),(∀i,i<k→p (m.getD i 0)=true)→k<m.length→p (m.getD k 0)=false→(m.takeWhile p).length=k
  | [],k,_,h,_=>by simp at h
  | b::m,0,_,_,h=>by
    have hb:p b=false:=h;rw[cS,aB (by rw[hb];decide)];rfl
  | b::m,k+1,h1,h2,h3=>by
    have hb:p b=true:=h1 0 (by omega);rw[cS,aD hb,aP,BK p m k (fun i hi=>h1 (i+1) (by omega)) (by simpa using h2) h3]
theorem oo (l:List UInt8) (x:Nat) (h:x+fN p l x<l.length):p (l.getD (x+fN p l x) 0)=false:=by
  rw[←rH];exact BL p (l.drop x) (by have:fN p l x=((l.drop x).takeWhile p).length:=rfl;rw[List.length_drop];omega)
theorem om (l:List UInt8) (x k:Nat) (h1:∀i,i<k→p (l.getD (x+i) 0)=true) (h2:x+k<l.length) (h3:p (l.getD (x+k) 0)=false):fN p l x=k:=
  BK p (l.drop x) k (fun i hi=>by rw[rH];exact h1 i hi) (by rw[List.length_drop];omega) (by rw[rH];exact h3)
theorem ud:gD l x=x+fN (fun c=>c.toNat != 10) l x:=rfl
theorem rL (s:Nat→Bool):∀(m k:Nat),k≤nt s m k∧nt s m k≤k+m∧(∀j,k≤j→j<nt s m k→s j=false)∧(nt s m k<k+m→s (nt s m k)=true)
  | 0,k=>⟨au _,au _,fun j h1 h2=>by simp only[nt] at h2;omega,fun h=>by simp only[nt] at h;omega⟩
  | m+1,k=>by
    unfold nt;by_cases hs:s k=true
    ·rw[aD hs];exact⟨au _,by omega,fun j h1 h2=>by omega,fun _=>hs⟩
    ·rw[aB hs];obtain⟨h1,h2,h3,h4⟩:=rL s m (k+1);refine⟨by omega,by omega,fun j h5 h6=>?_,fun h=>h4 (by omega)⟩;by_cases e:j=k
     ·subst e;simpa using hs
     ·exact h3 j (by omega) h6
theorem tf:js l x≤l.length-x:=by
  have:=(rL (gJ l x) (l.length-x) 0).2.1
  unfold js;omega
theorem yJ (hx:x<l.length) (h:gR (l.getD x 0)=false):0<js l x:=by
  obtain⟨a1,a2,a3,a4⟩:=rL (gJ l x) (l.length-x) 0;have e:nt (gJ l x) (l.length-x) 0=js l x:=rfl;rw[e] at a1 a2 a3 a4;refine Nat.pos_of_ne_zero fun h0=>?_
  rw[h0] at a4
  have:=a4 (by omega)
  unfold gJ nu at this;rw[Nat.add_zero,h] at this;simp at this
theorem JU (h:gR c=true):gN c=true∨c.toNat=10∨eT c=3:=by
  have:=fg (fun c => !gR c||(gN c||c.toNat==10||eT c==3)) (by decide +kernel) c
  simpa [h,or_assoc] using this
theorem oy (hx:x<l.length):(fE l x).fr=x∧x<(fE l x).to∧(fE l x).to≤l.length∧1≤(fE l x).kd∧(fE l x).kd≤6:=by
  unfold fE;split
  ·rename_i h;have h1:=(rT l x hx).2 h;have h2:=mG l _ x rfl (by omega);exact⟨rfl,h1,h2.2,(by decide:1≤1),(by decide:1≤6)⟩
  ·rename_i h;split
   ·exact⟨rfl,dH _,hx,(by decide:1≤2),(by decide:2≤6)⟩
   ·rename_i h10;split
    ·rename_i h35;have h1:=nP l x (by omega);refine⟨rfl,?_,h1.2,(by decide:1≤3),(by decide:3≤6)⟩;show x<gD l x
     have:((l.drop x).takeWhile fun c=>c.toNat != 10).length≠0:=by
       rw[cV hx,cS,aD]
       ·simp
       ·rw[aE,ax hx] at h35;have h35:(l[x]).toNat=35:=h35;rw[h35];rfl
     unfold gD;omega
    ·split
     ·rename_i hop;refine⟨rfl,?_,?_,(by decide:1≤4),(by decide:4≤6)⟩
      ·show x<x+_;omega
      ·show x+(fp l x).2≤l.length
       have:∀(d:List UInt8) (n:Nat),(sc d n).2≤n:=by
         intro d n
         induction n with
         | zero=>exact au _
         | succ n ih=>unfold sc;split;exact au _;omega
       unfold fp;split
       ·simp;omega
       ·have:=this (l.drop x) (min 3 (l.length-x));omega
     ·rename_i hop;split
      ·rename_i hn;unfold mq at hn;simp at hn;exact⟨rfl,by show x<x+_;omega,by show x+_≤_;omega,(by decide:1≤5),(by decide:5≤6)⟩
      ·rename_i hn;have he:gR (l.getD x 0)=false:=by
         cases h2:gR (l.getD x 0)
         ·rfl
         ·exfalso;rcases JU _ h2 with h3|h3|h3
          ·exact h (.inl h3)
          ·exact h10 h3
          ·exact hop ((oC l x hx).2.2.2 h3)
       have h1:=yJ l x hx he;have h2:=tf l x;exact⟨rfl,by show x<x+_;omega,by show x+_≤_;omega,(by decide:1≤6),(by decide:6≤6)⟩
theorem J3 (hx:x<l.length) (X:Lx) (d:Dl) (r:List Dl):(nY l x X d r).1.fr=x∧x<(nY l x X d r).1.to∧(nY l x X d r).1.to≤l.length∧(nY l x X d r).1.kd=7:=by
  have h:=zh l d.1 d.2 _ x rfl hx;unfold nY;split
  ·exact⟨rfl,h.1,h.2.1,rfl⟩
  ·exact⟨rfl,h.1,h.2.1,rfl⟩
theorem jS (hx:x<l.length) (X:Lx):(eZ l x X).1.fr=x∧x<(eZ l x X).1.to∧(eZ l x X).1.to≤l.length∧1≤(eZ l x X).1.kd∧(eZ l x X).1.kd≤7:=by
  have hp:=oy l x hx;unfold eZ;split
  ·rename_i d r _ _
   have:=J3 l x hx X d r
   exact⟨this.1,this.2.1,this.2.2.1,by omega,by omega⟩
  ·exact⟨hp.1,hp.2.1,hp.2.2.1,hp.2.2.2.1,by have:=hp.2.2.2.2;show (fE l x).kd≤7;omega⟩
theorem vI (l:List UInt8):∀(m m' x:Nat) (X:Lx),l.length<m+x→l.length<m'+x→oV l m x X=oV l m' x X
  | 0,m',x,X,h,h'=>by
    cases m' with
    | zero=>rfl
    | succ m'=>unfold oV;rw[aB (by omega)]
  | m+1,0,x,X,h,h'=>by unfold oV;rw[aB (by omega)]
  | m+1,m'+1,x,X,h,h'=>by
    unfold oV;by_cases hx:x<l.length
    ·have:=jS l x hx X
     rw[aD hx,aD hx,vI l m m' _ _ (by omega) (by omega)]
    ·rw[aB hx,aB hx]
def yR (l:List UInt8) (x:Nat) (X:Lx):List Tk×Lx:=oV l (l.length+1-x) x X
theorem Co (X:Lx):yR l x X=if x<l.length then ((eZ l x X).1::(yR l (eZ l x X).1.to (eZ l x X).2).1,(yR l (eZ l x X).1.to (eZ l x X).2).2) else ([],X):=by
  unfold yR;by_cases hx:x<l.length
  ·obtain⟨m,hm⟩:∃m,l.length+1-x=m+1:=⟨l.length-x,by omega⟩
   have:=jS l x hx X
   rw[hm];show (if x<l.length then _ else _)=_;rw[aD hx,aD hx,vI l m (l.length+1-(eZ l x X).1.to) (eZ l x X).1.to (eZ l x X).2 (by omega) (by omega)]
  ·rw[aB hx];by_cases h0:l.length+1-x=0
   ·rw[h0];rfl
   ·obtain⟨m,hm⟩:∃m,l.length+1-x=m+1:=⟨l.length+1-x-1,by omega⟩;rw[hm];show (if x<l.length then _ else _)=_;rw[aB hx]
def ve (l:List UInt8):List Tk→Nat→Prop
  | [],x=>x=l.length
  | t::r,x=>t.fr=x∧x<t.to∧t.to≤l.length∧1≤t.kd∧t.kd≤7∧ve l r t.to
theorem vd (l:List UInt8):∀(m x:Nat) (X:Lx),x≤l.length→l.length<m+x→ve l (oV l m x X).1 x
  | 0,x,X,h1,h2=>by omega
  | m+1,x,X,h1,h2=>by
    unfold oV;by_cases hx:x<l.length
    ·obtain⟨a,b,c,d,e⟩:=jS l x hx X;rw[aD hx];exact⟨a,b,c,d,e,vd l m _ _ c (by omega)⟩
    ·rw[aB hx];show x=l.length;omega
theorem q9:ve l (iX l).1 0:=vd l _ 0 yO (bv _) (by omega)
theorem BQ {l:List UInt8}:∀{ts:List Tk} {x:Nat} (_:ve l ts x) (i:Nat) (t:Tk),ts[i]? = some t→x≤t.fr∧t.fr<t.to∧t.to≤l.length∧1≤t.kd∧t.kd≤7
  | [],x,h,i,t,hi=>by simp at hi
  | a::r,x,⟨h1,h2,h3,h4,h5,h6⟩,0,t,hi=>by
    simp at hi;subst hi;omega
  | a::r,x,⟨h1,h2,h3,h4,h5,h6⟩,i+1,t,hi=>by
    have:=BQ h6 i t (by simpa using hi)
    omega
theorem xN {l:List UInt8}:∀{ts:List Tk} {x:Nat} (_:ve l ts x),ts.length+x≤l.length
  | [],x,h=>by have h:x=l.length:=h;simp;omega
  | a::r,x,⟨h1,h2,h3,h4,h5,h6⟩=>by
    have:=xN h6
    simp;omega
theorem qG:(iX l).1.length≤l.length:=by have:=xN (q9 l);omega
end Go.Proofs.YtcagfamdoaoimaaGreatDoor
