/- Each part by the frames that make it: from where to where it goes. No program is in sight. -/
import Derived.Test.YtfagdpfgifgnoaaGreatDoorPl6
import Derived.Test.YtfagdpfgifgnoaaGreatDoorCls
set_option linter.unusedVariables false
set_option linter.unusedSimpArgs false
set_option maxRecDepth 100000
set_option maxHeartbeats 8000000
namespace Go.Proofs.YtfagdpfgifgnoaaGreatDoor
variable {a:Int} {L:List bA} {l l':List UInt8} {f k i y x N n j x' d' i' j':Nat} {q:bA} {st r:bp} {d:UInt8} (w:List UInt8) (s:Nat→Bool) (p:UInt8→Bool) (c:UInt8) (b:List UInt8) (t:Bool) (m:Nat)
def fg (l:List UInt8) (f k:Nat):Prop:=(f:Int)∈aR (FT l k)
theorem Af (h:fg l f k):f<k:=by have:=(jz l k).2 _ h;omega
theorem ua (h:fg l f (k+1)) (hk:k≠f):fg l f k:=by
  obtain⟨j,A,B,hF,hj,hA,hB⟩:=gX l k;unfold fg at h;rw[hF,aR,List.map_append] at h;rcases List.mem_append.1 h with h|h
  ·have h':(f:Int)∈aR A:=h;rw[hA] at h';exact List.mem_of_mem_take h'
  ·rcases hB with rfl|⟨c,rfl⟩
   ·cases h
   ·simp at h;omega
theorem tZ (h:fg l f k):∀j,f<j→j≤k→fg l f j:=by
  induction k with
  | zero=>intro j h1 h2;have:=Af h;omega
  | succ k ih=>
    intro j h1 h2;by_cases e:j=k+1
    ·subst e;exact h
    ·exact ih (ua h (by omega)) j h1 (by omega)
theorem yz (h:fg l f (f+1)):∃A c,FT l (f+1)=A++[(c,(f:Int))]∧∀p∈aR A,p∈aR (FT l f):=by
  obtain⟨j,A,B,hF,hj,hA,hB⟩:=gX l f;have hs:∀p∈aR A,p∈aR (FT l f):=fun p hp=>by rw[hA] at hp;exact List.mem_of_mem_take hp
  rcases hB with rfl|⟨c,rfl⟩
  ·unfold fg at h;rw[hF,List.append_nil] at h
   have:=(jz l f).2 _ (hs _ h)
   omega
  ·exact⟨A,c,hF,hs⟩
theorem tT:sJ c=12↔c.toNat=76:=by
  have:=bM (fun c=>decide (sJ c=12)==decide (c.toNat=76)) (by decide +kernel) c
  simpa using this
theorem vc {c:UInt8} (h:(c,(f:Int))∈FT l k) (hc:c.toNat=76):k=f+1∧∃d p r,(cV l k).1=(76,(f:Int))::(d,p)::r:=by
  have hm:(c,(f:Int))∈(cV l k).1:=by rw[eN];exact List.mem_append_left _ (by simpa [FT] using h)
  rcases C2 l k with h1|⟨d,q,r,he,h1,_,_⟩
  ·exact absurd hc (h1 _ hm)
  ·rw[he] at hm;rcases List.mem_cons.1 hm with hm|hm
   ·simp only[Prod.mk.injEq] at hm;exact⟨by omega,d,q,r,by rw[he,hm.2]⟩
   ·exact absurd hc (h1 _ hm)
theorem lu (F:Nat→bp) (fr:Int) (n:Nat):∀(m k:Nat) (q:bA),q.op=true →
    (eT F fr n m k q).fr=q.fr∧(eT F fr n m k q).up=q.up ∧
    (((eT F fr n m k q).op=true∧(eT F fr n m k q).to=q.to∧(∀j,k≤j→j<k+m→fr∈aR (F j)))∨((eT F fr n m k q).op=false∧∃e:Nat,k≤e∧e<k+m∧(eT F fr n m k q).to=e∧fr∉aR (F e)∧∀j,k≤j→j<e→fr∈aR (F j))) ∧
    (((eT F fr n m k q).mode=q.mode∧(fr∉aR (F k)∨m=0))∨∃e,k≤e∧e<k+m∧fr∈aR (F e)∧(eT F fr n m k q).mode=sJ ((F e).getD (n-1) (0,0)).1)
  | 0,k,q,ho=>⟨rfl,rfl,.inl ⟨ho,rfl,fun j _ _=>by omega⟩,.inl ⟨rfl,.inr rfl⟩⟩
  | m+1,k,q,ho=>by
    unfold eT;by_cases hm:fr∈aR (F k)
    ·rw[if_neg (fun h=>gV.1 h hm)];obtain⟨h1,h2,h3,h4⟩:=lu F fr n m (k+1) {q with mode:=sJ ((F k).getD (n-1) (0,0)).1} ho;refine⟨h1,h2,?_,.inr ?_⟩
     ·rcases h3 with ⟨h3,h5,h6⟩|⟨h3,e,h5,h6,h7,h8,h9⟩
      ·refine .inl ⟨h3,h5,fun j hj hj2=>?_⟩;by_cases e:j=k
       ·subst e;exact hm
       ·exact h6 j (by omega) (by omega)
      ·refine .inr ⟨h3,e,by omega,by omega,h7,h8,fun j hj hj2=>?_⟩;by_cases e:j=k
       ·subst e;exact hm
       ·exact h9 j (by omega) (by omega)
     ·rcases h4 with ⟨h4,_⟩|⟨e,h5,h6,h7,h8⟩
      ·exact⟨k,Nat.le_refl _,by omega,hm,h4⟩
      ·exact⟨e,by omega,by omega,h7,h8⟩
    ·rw[if_pos (gV.2 hm)];exact⟨rfl,rfl,.inr ⟨rfl,k,Nat.le_refl _,by omega,rfl,hm,fun j _ _=>by omega⟩,.inl ⟨rfl,.inl hm⟩⟩
structure PI (l:List UInt8) (q:bA) (f:Nat):Prop where
  fr:q.fr=f
  lt:f<l.length
  al:fg l f (f+1)
  up:q.up=wE (FT l (f+1)) (aE l f)
  kind:(q.mode≠12∧((q.op=true∧q.to=l.length∧∀j,f<j→j≤l.length→fg l f j)∨(q.op=false∧∃e:Nat,f+1<e∧e≤l.length∧q.to=e∧¬fg l f e∧∀j,f<j→j<e→fg l f j))∧∀c:UInt8,(c,(f:Int))∈FT l (f+1)→c.toNat=76→fg l f (f+2)) ∨
    (q.mode=12∧q.op=false∧q.to=f+1+(lw l (f+1):Int)∧(∃d p r,(cV l (f+1)).1=(76,(f:Int))::(d,p)::r)∧(f+2≤l.length→¬fg l f (f+2)))
theorem Fc (hf:f<l.length) (hq:q∈im (FT l (f+1)) f (aE l f)):PI l (i6 l (gC l (l.length-(f+1)) (f+2) q)) f:=by
  have hal:fg l f (f+1):=by
    refine Classical.byContradiction fun h=>?_
    rw[jm (fun p hp e=>h (by unfold fg;rw[←e];exact hp))] at hq
    cases hq
  obtain⟨A,c,hF,hs⟩:=yz hal;rw[jl hF] at hq;simp only[List.mem_singleton] at hq;have h0:(aR (FT l (f+1)))[A.length]? = some (f:Int):=by rw[hF];simp[aR]
  have hop:q.op=true:=by rw[hq]
  have hfr:q.fr=f:=by rw[hq]
  have hup:q.up=wE (FT l (f+1)) (aE l f):=by rw[hq]
  have hmd:q.mode=sJ c:=by rw[hq]
  have hse:=jg l f (A.length+1) (fun k hk hm=>gP l f A.length h0 k hk hm) (l.length-(f+1)) (f+2) q hop hfr (by omega);obtain⟨s1,s2,s3,s4⟩:=lu (FT l) f (A.length+1) (l.length-(f+1)) (f+2) {q with to:=l.length} hop;unfold i6;rw[←hse];generalize eT (FT l) f (A.length+1) (l.length-(f+1)) (f+2) {q with to:=l.length}=r at *;have r1:r.fr=f:=s1.trans hfr;have r2:r.up=wE (FT l (f+1)) (aE l f):=s2.trans hup;by_cases hm:r.mode=12
  ·have e:mz l r={r with to:=r.fr+1+(lw l (r.fr+1).toNat:Int),op:=false}:=by unfold mz;rw[if_pos hm]
   rw[e];have hx:sJ c=12∧((f:Int)∉aR (FT l (f+2))∨l.length-(f+1)=0):=by
     rcases s4 with ⟨s4,s5⟩|⟨e,h1,h2,h3,h4⟩
     ·rw[hm] at s4;exact⟨by rw[←hmd];exact s4.symm,s5⟩
     ·exfalso;rw[hm] at h4;have hc:=(tT _).1 h4.symm;have h5:=gP l f A.length h0 e (by omega) h3;rw[Nat.add_sub_cancel] at hc;rw[List.getElem?_map] at h5
      cases hy:(FT l e)[A.length]? with
      | none=>rw[hy] at h5;cases h5
      | some y=>
        rw[hy] at h5;obtain⟨c',p'⟩:=y;simp at h5;subst h5;rw[List.getD_eq_getElem?_getD,hy] at hc
        have:=(vc (List.mem_of_getElem? hy) hc).1
        omega
   have hc:=(tT c).1 hx.1;refine⟨r1,hf,hal,r2,.inr ⟨hm,rfl,?_,(vc (c:=c) (by rw[hF];simp) hc).2,?_⟩⟩
   ·show r.fr+1+(lw l (r.fr+1).toNat:Int)=_;rw[r1];rfl
   ·intro h2;rcases hx.2 with h|h
    ·exact h
    ·omega
  ·have e:mz l r=r:=by unfold mz;rw[if_neg hm]
   rw[e];refine⟨r1,hf,hal,r2,.inl ⟨hm,?_,?_⟩⟩
   rotate_left
   ·intro c' hc' h76;rcases s4 with ⟨s4,s5⟩|⟨e,h1,h2,h3,h4⟩
    ·exfalso;obtain⟨i,hi⟩:=List.mem_iff_getElem?.1 hc';have hi2:(aR (FT l (f+1)))[i]? = some (f:Int):=by rw[List.getElem?_map,hi];rfl
     have:=lH (lp l (f+1)) hi2 h0
     subst this;rw[hF] at hi;simp at hi;subst hi;exact hm (by rw[s4];show q.mode=12;rw[hmd];exact(tT _).2 h76)
    ·exact tZ h3 (f+2) (by omega) (by omega)
   rcases s3 with ⟨h1,h2,h3⟩|⟨h1,e,h2,h3,h4,h5,h6⟩
   ·refine .inl ⟨h1,h2,fun j hj hj2=>?_⟩;by_cases e:j=f+1
    ·subst e;exact hal
    ·exact h3 j (by omega) (by omega)
   ·refine .inr ⟨h1,e,by omega,by omega,h4,h5,fun j hj hj2=>?_⟩;by_cases e:j=f+1
    ·subst e;exact hal
    ·exact h6 j (by omega) (by omega)
theorem tq (l:List UInt8):aA l=(List.range l.length).flatMap (fun f=>(im (FT l (f+1)) f (aE l f)).map fun q=>i6 l (gC l (l.length-(f+1)) (f+2) q)):=by
  rw[←tv];exact(jO l l.length (Nat.le_refl _)).1
theorem vQ (l:List UInt8):db (aA l)=db (aE l l.length):=by
  unfold aA;simp only[db,List.map_map];exact List.map_congr_left fun q _=>uW l q
theorem tp (l:List UInt8):(db (aA l)).Pairwise (· < ·):=by rw[vQ];exact(gU l l.length).rise
theorem Fb (hq:PI l q f):(f:Int)<q.to∧q.to≤(l.length:Int):=by
  have hfl:=hq.lt;rcases hq.kind with ⟨_,h,_⟩|⟨_,_,h,_,_⟩
  ·rcases h with ⟨_,h,_⟩|⟨_,e,h1,h2,h3,_⟩
   ·rw[h];omega
   ·rw[h3];omega
  ·have:=uE l (f+1)
   rw[h];omega
theorem Bf (hr:(db L).Pairwise (· < ·)) {p:bA} (hi:L[i]? = some p) (hk:L[k]? = some q):k<i↔q.fr<p.fr:=by
  obtain⟨h1,h2⟩:=List.getElem?_eq_some_iff.1 hi;obtain⟨h3,h4⟩:=List.getElem?_eq_some_iff.1 hk;have hp:=List.pairwise_iff_getElem.1 hr;have g1:(db L)[i]'(by simpa using h1)=p.fr:=by simp[db,h2]
  have g3:(db L)[k]'(by simpa using h3)=q.fr:=by simp[db,h4]
  constructor
  ·intro h
   have:=hp k i (by simpa using h3) (by simpa using h1) h
   rwa [g1,g3] at this
  ·intro h;refine Nat.lt_of_not_le fun hh=>?_
   rcases Nat.lt_or_eq_of_le hh with h5|h5
   ·have:=hp i k (by simpa using h1) (by simpa using h3) h5
    rw[g1,g3] at this;omega
   ·subst h5;rw[hi] at hk;injection hk with hk
    subst hk;omega
theorem getD_some (h:L[k]? = some q):L.getD k dP=q:=by rw[List.getD_eq_getElem?_getD,h];rfl
theorem Eo:sJ c=13↔c.toNat=88:=by
  have:=bM (fun c=>decide (sJ c=13)==decide (c.toNat=88)) (by decide +kernel) c
  simpa using this
def PX (st:bp) (a:Int) (x:bp×Bool):Prop:=∀y∈x.1,y.1=88→y∈st∨y.2=a
theorem PX.same {f:Bool}:PX st a (st,f):=fun y hy _=>.inl hy
theorem PX.tail {f:Bool}:PX st a (st.tail,f):=fun y hy _=>.inl (List.mem_of_mem_tail hy)
theorem PX.push {f:Bool} {c:UInt8}:PX st a ((c,a)::st,f):=fun y hy _=>by
  rcases List.mem_cons.1 hy with rfl|hy
  ·exact .inr rfl
  ·exact .inl hy
theorem PX.turn {p:Int} {f:Bool} {c:UInt8} (hc:c≠88):PX ((d,p)::r) a ((c,p)::r,f):=fun y hy h=>by
  rcases List.mem_cons.1 hy with rfl|hy
  ·exact absurd h hc
  ·exact .inl (List.mem_cons_of_mem _ hy)
theorem PX.deep {y:UInt8×Int} {x:bp×Bool} (h:PX r a x):PX (y::r) a x:=fun z hz e=>by
  rcases h z hz e with h1|h1
  ·exact .inl (List.mem_cons_of_mem _ h1)
  ·exact .inr h1
theorem PX.other {p:Int} {c:UInt8} {x:bp×Bool} (hc:c≠88) (h:PX ((c,p)::r) a x):PX ((d,p)::r) a x:=fun z hz e=>by
  rcases h z hz e with h1|h1
  ·rcases List.mem_cons.1 h1 with rfl|h1
   ·exact absurd e hc
   ·exact .inl (List.mem_cons_of_mem _ h1)
  ·exact .inr h1
theorem qW (st:bp) (f:Bool) (c b:UInt8) (a:Int):PX st a (aj st f c b a):=by
  unfold aj
  repeat' (refine ax (PX st a) (fun _=>?_) (fun _=>?_))
  all_goals first
    | exact PX.push
    | exact PX.tail
    | exact PX.same
theorem jh (st:bp) (f:Bool) (c b:UInt8) (a:Int):PX st a (aa st f c b a):=by
  unfold aa
  repeat' (refine ax (PX st a) (fun _=>?_) (fun _=>?_))
  all_goals first
    | exact qW _ _ _ _ _
    | exact PX.push
    | exact PX.tail
    | exact PX.same
    | (cases st with
       | nil=>exact PX.same
       | cons y r=>exact PX.turn (by decide))
theorem xA (st:bp) (f:Bool) (b:UInt8) (a:Int):PX st a (bJ st f b a):=by
  match st with
  | []=>exact PX.same
  | (c,p)::r=>
    unfold bJ;refine ax (PX ((c,p)::r) a) (fun _=>?_) (fun _=>?_)
    ·refine ax (PX ((c,p)::r) a) (fun _=>PX.turn (by decide)) (fun _=>?_);refine ax (PX ((c,p)::r) a) (fun _=>?_) (fun _=>?_)
     ·cases r with
      | nil=>exact PX.turn (by decide)
      | cons y r=>exact ax (PX ((c,p)::y::r) a) (fun _=>PX.turn (by decide)) (fun _=>PX.turn (by decide))
     ·refine ax (PX ((c,p)::r) a) (fun _=>PX.same.deep) (fun _=>?_)
      cases r with
      | nil=>exact PX.same.deep
      | cons y r=>exact(jh _ _ _ _ _).deep
    ·refine ax (PX ((c,p)::r) a) (fun _=>?_) (fun _=>?_)
     ·exact ax (PX ((c,p)::r) a) (fun _=>PX.turn (by decide)) (fun _=>(jh _ _ _ _ _).other (by decide))
     ·refine ax (PX ((c,p)::r) a) (fun _=>?_) (fun _=>jh _ _ _ _ _);exact ax (PX ((c,p)::r) a) (fun _=>PX.same.deep) (fun _=>(jh _ _ _ _ _).other (by decide))
theorem vV {c:UInt8} (hk:f+2≤k) (h:(c,(f:Int))∈FT l k):c.toNat≠88:=by
  intro hc;obtain rfl:c=88:=UInt8.toNat_inj.1 hc;obtain⟨k,rfl⟩:∃k',k=k'+1:=⟨k-1,by omega⟩;have hm:((88:UInt8),(f:Int))∈(cV l (k+1)).1:=by rw[eN];exact List.mem_append_left _ (by simpa [FT] using h)
  have hs:(cV l (k+1)).1=(bJ (cV l k).1 (cV l k).2 (l.getD k 0) k).1:=rfl;rcases xA (cV l k).1 (cV l k).2 (l.getD k 0) k _ (by rw[←hs];exact hm) rfl with h1|h1
  ·have hv:=oD l k;have hx:=eN l k;have hnd:(aR (XT l k)).Nodup:=by rw[List.nodup_iff_pairwise_ne];exact(qD l k).1.imp (fun h=>by omega)
   cases hst:(cV l k).1 with
   | nil=>rw[hst] at h1;cases h1
   | cons y r=>
     obtain⟨d,p⟩:=y;rw[hst] at h1 hv;rcases List.mem_cons.1 h1 with h2|h2
     ·simp only[Prod.mk.injEq] at h2;obtain⟨rfl,rfl⟩:=h2;have e:(bJ (cV l k).1 (cV l k).2 (l.getD k 0) k).1=r:=by rw[hst];unfold bJ aa;simp
      rw[hs,e] at hm;have hX:((88:UInt8),(f:Int))∈XT l k:=by
        have:((88:UInt8),(f:Int))∈(cV l k).1:=by rw[hst];exact List.mem_cons_self
        rw[hx] at this;rcases List.mem_append.1 this with h3|h3
        ·exact h3
        ·simp at h3
      cases hXT:XT l k with
      | nil=>rw[hXT] at hX;cases hX
      | cons z Z=>
        rw[hXT] at hx hnd;rw[hst,List.cons_append] at hx;injection hx with hz hr
        subst hz;rw[hr] at hm;simp only[aR,List.map_cons,List.nodup_cons] at hnd;rcases List.mem_append.1 hm with h3|h3
        ·exact hnd.1 (List.mem_map.2 ⟨_,h3,rfl⟩)
        ·simp at h3
     ·have:=hv.2 _ h2
      exact absurd (show qE 88=true from this) (by decide)
  ·simp at h1;omega
theorem rq (h:q∈aA l):∃f t:Nat,q.fr=f∧q.to=t∧f<t∧t≤l.length∧(q.mode≠12→q.op=false→f+2≤t)∧(q.op=true→t=l.length)∧(q.mode=13→t≤f+2):=by
  have h0:=h;rw[tq] at h;obtain⟨f,hf,hq⟩:=List.mem_flatMap.1 h;have hf:=List.mem_range.1 hf;obtain⟨q0,hq0,rfl⟩:=List.mem_map.1 hq;have hp:=Fc hf hq0;have hto:=Fb hp;obtain⟨t,ht⟩:∃t:Nat,(i6 l (gC l (l.length-(f+1)) (f+2) q0)).to=t:=⟨_,(Int.toNat_of_nonneg (by omega)).symm⟩;refine⟨f,t,hp.fr,ht,by omega,by omega,?_,?_,?_⟩
  ·intro h12 hop;rcases hp.kind with ⟨_,h1|⟨_,e,h2,h3,h4,_⟩,_⟩|h1
   ·rw[h1.1] at hop;cases hop
   ·omega
   ·exact absurd h1.1 h12
  ·intro hop;rcases hp.kind with ⟨_,h1|⟨h2,_⟩,_⟩|h1
   ·have:=h1.2.1;omega
   ·rw[hop] at h2;cases h2
   ·rw[h1.2.1] at hop;cases hop
  ·intro h13;have hgone:¬fg l f (f+2)∨l.length≤f+1:=by
     have hal:=hp.al;obtain⟨A,c,hF,hs⟩:=yz hal;rw[jl hF] at hq0;simp only[List.mem_singleton] at hq0;have i0:(aR (FT l (f+1)))[A.length]? = some (f:Int):=by rw[hF];simp[aR]
     have hop:q0.op=true:=by rw[hq0]
     have hfr:q0.fr=f:=by rw[hq0]
     have hse:=jg l f (A.length+1) (fun k hk hm=>gP l f A.length i0 k hk hm) (l.length-(f+1)) (f+2) q0 hop hfr (by omega);obtain⟨s1,s2,s3,s4⟩:=lu (FT l) f (A.length+1) (l.length-(f+1)) (f+2) {q0 with to:=l.length} hop;rw[show i6 l (gC l (l.length-(f+1)) (f+2) q0)=mz l (fP l.length (gC l (l.length-(f+1)) (f+2) q0)) from rfl,←hse] at h13;generalize eT (FT l) f (A.length+1) (l.length-(f+1)) (f+2) {q0 with to:=l.length}=r at *;have hr:r.mode=13:=by
       unfold mz at h13;by_cases h12:r.mode=12
       ·rw[if_pos h12] at h13
        have:r.mode=13:=h13
        omega
       ·rw[if_neg h12] at h13;exact h13
     rcases s4 with ⟨_,h5|h5⟩|⟨e,h1,h2,h3,h4⟩
     ·exact .inl h5
     ·exact .inr (by omega)
     ·exfalso;rw[hr] at h4;have hc:=(Eo _).1 h4.symm;have h5:=gP l f A.length i0 e (by omega) h3;rw[Nat.add_sub_cancel] at hc;rw[List.getElem?_map] at h5
      cases hy:(FT l e)[A.length]? with
      | none=>rw[hy] at h5;cases h5
      | some y=>
        rw[hy] at h5;simp at h5;rw[List.getD_eq_getElem?_getD,hy] at hc;exact vV (c:=y.1) h1 (by rw[←h5];exact List.mem_of_getElem? hy) hc
   rcases hp.kind with ⟨_,⟨h1,h2,h3⟩|⟨_,e,h2,h3,h4,_,h6⟩,_⟩|h1
   ·rcases hgone with hg|hg
    ·have:¬(f+2≤l.length):=fun hh=>hg (h3 (f+2) (by omega) hh)
     omega
    ·omega
   ·rcases hgone with hg|hg
    ·have:¬(f+2<e):=fun hh=>hg (h6 (f+2) (by omega) hh)
     omega
    ·omega
   ·rw[h1.1] at h13;cases h13
structure Pc where
  ex:Bool
  qu:Bool
  tx:List UInt8
def sub (l:List UInt8) (a b:Nat):List UInt8:=(l.take b).drop a
def eZ (L:List bA) (x:Nat):Option bA:=L.find? (fun q=>q.fr==(x:Int))
def bq (q:bA):Nat:=q.to.toNat
def ns (q:bA) (x:Nat):Bool:=decide (q.mode=12∧bq q=x+1)
def lO (q:bA):Nat:=if q.op=true then bq q else bq q-1
def Cr (c:UInt8):Bool:=c.toNat==36||c.toNat==96||c.toNat==34||c.toNat==92
def jD (l:List UInt8) (q:bA) (x:Nat):List UInt8:=
  if bq q<x+2 then [] else if Cr (l.getD (x+1) 0)=true then [l.getD (x+1) 0] else if (l.getD (x+1) 0).toNat=10 then [] else sub l x (bq q)
def nJ (b:List UInt8):List Pc:=if b=[] then [] else [⟨false,false,b⟩]
def vS (b:List UInt8):List Pc:=if b=[] then [] else [⟨false,true,b⟩]
def fR (l:List UInt8) (L:List bA) (e:Nat):Nat→Nat→List UInt8→Bool→List Pc
  | 0,_,_,_=>[]
  | m+1,x,here,ex=>
    if x<e then
      match eZ L x with
      | none=>fR l L e m (x+1) (here++[l.getD x 0]) ex
      | some q=>
        if ns q x=true then fR l L e m (x+1) (here++[l.getD x 0]) ex
        else if q.mode=13 then fR l L e m (bq q) (here++jD l q x) ex
        else vS here++⟨true,true,sub l x (bq q)⟩::fR l L e m (bq q) [] true
    else if here=[]∧ex=true then [] else [⟨false,true,here⟩]
def dG (l:List UInt8) (L:List bA):Nat→Nat→List UInt8→List Pc
  | 0,_,buf=>nJ buf
  | m+1,x,buf=>
    if x<l.length then
      match eZ L x with
      | none=>dG l L m (x+1) (buf++[l.getD x 0])
      | some q=>
        if ns q x=true∨q.mode=14 then dG l L m (bq q) (buf++sub l x (bq q))
        else if q.mode=13 then
          (if sub l (x+1) (bq q)=[]∨sub l (x+1) (bq q)=[10] then dG l L m (bq q) buf
           else nJ buf++⟨false,true,sub l (x+1) (bq q)⟩::dG l L m (bq q) [])
        else if q.mode=4 then nJ buf++⟨false,true,sub l (x+1) (lO q)⟩::dG l L m (bq q) []
        else if q.mode=5 then nJ buf++(fR l L (lO q) (l.length+1) (x+1) [] false++dG l L m (bq q) [])
        else nJ buf++⟨true,false,sub l x (bq q)⟩::dG l L m (bq q) []
    else nJ buf
def jN (l:List UInt8):List Pc:=dG l (aA l) (l.length+1) 0 []
theorem po {a b:Nat} (h:b≤l.length):(sub l a b).length=b-a:=by unfold sub;simp;omega
structure PL (l:List UInt8) (L:List bA):Prop where
  two:∀q∈L,∃f t:Nat,q.fr=f∧q.to=t∧f<t∧t≤l.length∧(q.mode≠12→q.op=false→f+2≤t)∧(q.op=true→t=l.length)∧(q.mode=13→t≤f+2)
theorem iQ (l:List UInt8):PL l (aA l):=⟨fun q h=>rq h⟩
theorem dX (hL:PL l L) (h:eZ L x=some q):q∈L∧q.fr=x∧q.to=bq q∧x<bq q∧bq q≤l.length∧(q.mode≠12→q.op=false→x+2≤bq q)∧(q.op=true→bq q=l.length)∧(q.mode=13→bq q≤x+2):=by
  have h1:=List.mem_of_find?_eq_some h;have h2:q.fr=x:=by have:=List.find?_some h;simpa using this
  obtain⟨f,t,a,b,c,d,e,g,i⟩:=hL.two q h1;have e1:bq q=t:=by unfold bq;omega
  have e2:f=x:=by omega
  subst e2;rw[e1];exact⟨h1,h2,b,c,d,e,g,i⟩
def o9 (L:List Pc):List UInt8:=L.flatMap (·.tx)
theorem qG (L:List Pc) (x:Pc):o9 (L++[x])=o9 L++x.tx:=by simp[o9]
theorem o8:∀(L:List Pc) (N:Nat),(∀x∈L,x.tx.length≤N)→(o9 L).length≤L.length*N
  | [],_,_=>by simp[o9]
  | x::r,N,h=>by
    have h1:=o8 r N (fun y hy=>h y (List.mem_cons_of_mem _ hy));have h2:=h x List.mem_cons_self;have e:(o9 (x::r)).length=x.tx.length+(o9 r).length:=by simp[o9]
    rw[e,List.length_cons,Nat.succ_mul];omega
def mw (b:List UInt8):Nat:=if b=[] then 0 else 1
theorem kJ:mw b≤1:=by unfold mw;split<;>omega
theorem jt:(nJ b).length=mw b:=by unfold nJ mw;split<;>rfl
theorem Ci:(vS b).length=mw b:=by unfold vS mw;split<;>rfl
theorem kY {l:List UInt8} {L:List bA} (hL:PL l L) (e:Nat):∀(m x:Nat) (here:List UInt8) (ex:Bool),(fR l L e m x here ex).length≤2*(e-x)+1+mw here
  | 0,_,_,_=>by simp[fR]
  | m+1,x,here,ex=>by
    unfold fR;by_cases hx:x<e
    ·rw[if_pos hx]
     cases hf:eZ L x with
     | none=>
       have h1:=kY hL e m (x+1) (here++[l.getD x 0]) ex;have h2:=kJ (here++[l.getD x 0]);simp only;omega
     | some q=>
       obtain⟨_,hfr,hto,hlt,hle,_⟩:=dX hL hf;simp only;split
       ·have h1:=kY hL e m (x+1) (here++[l.getD x 0]) ex;have h2:=kJ (here++[l.getD x 0]);omega
       ·split
        ·have h1:=kY hL e m (bq q) (here++jD l q x) ex;have h2:=kJ (here++jD l q x);omega
        ·have h1:=kY hL e m (bq q) [] true;rw[List.length_append,List.length_cons,Ci];simp only[mw,if_true] at h1 ⊢;omega
    ·rw[if_neg hx];split
     ·simp
     ·simp only[List.length_cons,List.length_nil];omega
theorem iT {l:List UInt8} {L:List bA} (hL:PL l L):∀(m x:Nat) (buf:List UInt8),(dG l L m x buf).length≤2*(l.length-x)+mw buf
  | 0,_,buf=>by simp[dG,jt]
  | m+1,x,buf=>by
    unfold dG;by_cases hx:x<l.length
    ·rw[if_pos hx];have hn:∀y,(dG l L m y []).length≤2*(l.length-y):=fun y=>by have:=iT hL m y [];simpa [mw] using this
     cases hf:eZ L x with
     | none=>
       have h1:=iT hL m (x+1) (buf++[l.getD x 0]);have h2:=kJ (buf++[l.getD x 0]);simp only;omega
     | some q=>
       obtain⟨_,hfr,hto,hlt,hle,h2,_⟩:=dX hL hf;have h3:=hn (bq q);simp only;split
       ·have h1:=iT hL m (bq q) (buf++sub l x (bq q));have h2:=kJ (buf++sub l x (bq q));omega
       ·split
        ·split
         ·have h1:=iT hL m (bq q) buf;omega
         ·rw[List.length_append,List.length_cons,jt];omega
        ·split
         ·rw[List.length_append,List.length_cons,jt];omega
         ·split
          ·rename_i h5;have h4:=kY hL (lO q) (l.length+1) (x+1) [] false;have h6:lO q≤bq q:=by unfold lO;split<;>omega
           simp only[mw,if_true] at h4;rw[List.length_append,List.length_append,jt];omega
          ·rw[List.length_append,List.length_cons,jt];omega
    ·rw[if_neg hx,jt];omega
theorem rp (l:List UInt8):(jN l).length≤2*l.length:=by
  have:=iT (iQ l) (l.length+1) 0 []
  simpa [mw,jN] using this
theorem lq (l:List UInt8) (a b:Nat):(sub l a b).length≤b-a:=by unfold sub;simp;omega
theorem Cq (h:x<bq q) (h2:bq q≤x+2∨True):(jD l q x).length≤bq q-x:=by
  unfold jD;split
  ·simp
  ·split
   ·simp;omega
   ·split
    ·simp
    ·exact lq _ _ _
theorem qo {b:List UInt8} (h:b.length≤N):∀p∈nJ b,p.tx.length≤N:=by
  intro p hp;unfold nJ at hp;split at hp
  ·cases hp
  ·simp at hp;subst hp;exact h
theorem Eg {b:List UInt8} (h:b.length≤N):∀p∈vS b,p.tx.length≤N:=by
  intro p hp;unfold vS at hp;split at hp
  ·cases hp
  ·simp at hp;subst hp;exact h
theorem nO {l:List UInt8} {L:List bA} (hL:PL l L) (e:Nat) (he:e≤l.length):∀(m x:Nat) (here:List UInt8) (ex:Bool),here.length≤x→x≤l.length→∀p∈fR l L e m x here ex,p.tx.length≤l.length
  | 0,_,_,_,_,_=>by intro p hp;cases hp
  | m+1,x,here,ex,hh,hxl=>by
    unfold fR;by_cases hx:x<e
    ·rw[if_pos hx]
     cases hf:eZ L x with
     | none=>exact nO hL e he m (x+1) _ ex (by simp;omega) (by omega)
     | some q=>
       obtain⟨_,hfr,hto,hlt,hle,_⟩:=dX hL hf;simp only;split
       ·exact nO hL e he m (x+1) _ ex (by simp;omega) (by omega)
       ·split
        ·exact nO hL e he m (bq q) _ ex (by have:=Cq (l:=l) hlt (.inr trivial);simp;omega) hle
        ·intro p hp;rcases List.mem_append.1 hp with hp|hp
         ·exact Eg (by omega) p hp
         ·rcases List.mem_cons.1 hp with rfl|hp
          ·have:=lq l x (bq q);simp only;omega
          ·exact nO hL e he m (bq q) [] true (by simp) hle p hp
    ·rw[if_neg hx];split
     ·intro p hp;cases hp
     ·intro p hp;simp at hp;subst hp;simp only;omega
theorem kz {l:List UInt8} {L:List bA} (hL:PL l L):∀(m x:Nat) (buf:List UInt8),buf.length≤x→x≤l.length→∀p∈dG l L m x buf,p.tx.length≤l.length
  | 0,_,buf,h,hx=>qo (by omega)
  | m+1,x,buf,h,hxl=>by
    unfold dG;by_cases hx:x<l.length
    ·rw[if_pos hx]
     cases hf:eZ L x with
     | none=>exact kz hL m (x+1) _ (by simp;omega) (by omega)
     | some q=>
       obtain⟨_,hfr,hto,hlt,hle,h2,_⟩:=dX hL hf;have hn:=kz hL m (bq q) [] (by simp) hle;have hone:∀(y:Pc),y.tx.length≤l.length→∀p∈nJ buf++y::dG l L m (bq q) [],p.tx.length≤l.length:=by
         intro y hy p hp;rcases List.mem_append.1 hp with hp|hp
         ·exact qo (by omega) p hp
         ·rcases List.mem_cons.1 hp with rfl|hp
          ·exact hy
          ·exact hn p hp
       have hend:lO q≤bq q:=by unfold lO;split<;>omega
       simp only;split
       ·exact kz hL m (bq q) _ (by have:=lq l x (bq q);simp;omega) hle
       ·split
        ·split
         ·exact kz hL m (bq q) buf (by omega) hle
         ·exact hone _ (by have:=lq l (x+1) (bq q);simp only;omega)
        ·split
         ·exact hone _ (by have:=lq l (x+1) (lO q);simp only;omega)
         ·split
          ·intro p hp;rcases List.mem_append.1 hp with hp|hp
           ·exact qo (by omega) p hp
           ·rcases List.mem_append.1 hp with hp|hp
            ·exact nO hL (lO q) (by omega) _ (x+1) [] false (by simp) (by omega) p hp
            ·exact hn p hp
          ·exact hone _ (by have:=lq l x (bq q);simp only;omega)
    ·rw[if_neg hx];exact qo (by omega)
theorem pQ (l:List UInt8):∀p∈jN l,p.tx.length≤l.length:=kz (iQ l) (l.length+1) 0 [] (by simp) (by omega)
def fV:Nat→List UInt8
  | 1=>[38,38]|2=>[124,124]|3=>[59,59]|4=>[60,60]|5=>[60,60,45]|6=>[62,62]|7=>[60,38]|8=>[62,38]|9=>[60,62]
  | 10=>[62,124]|11=>[60]|12=>[62]|13=>[38]|14=>[59]|15=>[124]|16=>[40]|17=>[41]|_=>[]
def dS (w:List UInt8):Nat→Nat→Nat
  | 0,_=>0
  | m+1,k=>if fV k=w then k else dS w m (k+1)
def eA (w:List UInt8):Nat:=if w=[] then 0 else dS w 17 1
def nY (d:List UInt8):Nat→Nat×Nat
  | 0=>(0,0)
  | n+1=>if eA (d.take (n+1))≠0 then (eA (d.take (n+1)),n+1) else nY d n
def eB (l:List UInt8) (x:Nat):Nat×Nat:=if cw (l.getD x 0)≠3 then (0,0) else nY (l.drop x) (min 3 (l.length-x))
def fL (d:List UInt8):Nat→Nat
  | 0=>0
  | k+1=>if (fV (k+1)).isPrefixOf d=true∧(fV (fL d k)).length<(fV (k+1)).length then k+1 else fL d k
def nV:List UInt8:=[38,124,59,60,62,45,40,41]
def rG (c:UInt8):UInt8:=if nV.contains c then c else 0
theorem jQ:∀k,∀c∈fV k,c∈nV:=by
  intro k;by_cases h:k<18
  ·have:((List.range 18).all fun k=>(fV k).all fun c=>nV.contains c)=true:=by decide +kernel
   have h2:=List.all_eq_true.1 this k (List.mem_range.2 h);intro c hc
   have:=List.all_eq_true.1 h2 c hc
   simpa using this
  ·intro c hc
   have:fV k=[]:=by unfold fV;split<;>first|omega|rfl
   rw[this] at hc
   cases hc
theorem yu {c:UInt8} (h:c∈nV):c=rG d↔c=d:=by
  unfold rG;constructor
  ·intro e;split at e
   ·exact e
   ·subst e;exact absurd h (by decide)
  ·intro e;subst e;rw[if_pos (by simpa using h)]
theorem qe:∀(t w:List UInt8),(∀c∈t,c∈nV)→(t=w.map rG↔t=w)
  | [],[],_=>by simp
  | [],_::_,_=>by simp
  | _::_,[],_=>by simp
  | a::t,b::w,h=>by
    have h1:=qe t w (fun c hc=>h c (List.mem_cons_of_mem _ hc));have h2:=yu (d:=b) (h a List.mem_cons_self);simp only[List.map_cons,List.cons.injEq,h1,h2]
theorem uC:∀(t w:List UInt8),(∀c∈t,c∈nV)→t.isPrefixOf (w.map rG)=t.isPrefixOf w
  | [],_,_=>by simp
  | _::_,[],_=>rfl
  | a::t,b::w,h=>by
    have h1:=uC t w (fun c hc=>h c (List.mem_cons_of_mem _ hc));have h2:=yu (d:=b) (h a List.mem_cons_self);simp only[List.map_cons,List.isPrefixOf,h1];congr 1;by_cases e:a=b
    ·subst e;simp[h2]
    ·have:¬a=rG b:=fun h=>e (h2.1 h)
     rw[beq_eq_false_iff_ne.2 e,beq_eq_false_iff_ne.2 this]
theorem ni (w:List UInt8):∀m k,dS (w.map rG) m k=dS w m k
  | 0,_=>rfl
  | m+1,k=>by
    unfold dS;rw[ni w m];by_cases e:fV k=w
    ·rw[if_pos e,if_pos ((qe _ _ (jQ k)).2 e)]
    ·rw[if_neg e,if_neg (fun h=>e ((qe _ _ (jQ k)).1 h))]
theorem yj:eA (w.map rG)=eA w:=by
  unfold eA;rw[ni];by_cases e:w=[]
  ·subst e;rfl
  ·rw[if_neg e,if_neg (by simpa using e)]
theorem uJ (d:List UInt8):∀n,nY (d.map rG) n=nY d n
  | 0=>rfl
  | n+1=>by
    unfold nY;rw[←List.map_take,yj,uJ d n]
theorem nj (d:List UInt8):∀k,fL (d.map rG) k=fL d k
  | 0=>rfl
  | k+1=>by
    unfold fL;rw[nj d k,uC _ _ (jQ _)]
theorem yh (k:Nat):(fV k).length≤3:=by
  unfold fV;split<;>simp
theorem xL (t w:List UInt8) (n:Nat) (h:t.length≤n):t.isPrefixOf (w.take n)=t.isPrefixOf w:=by
  induction t generalizing w n with
  | nil=>simp
  | cons a t ih=>
    cases w with
    | nil=>simp
    | cons b w=>
      cases n with
      | zero=>simp at h
      | succ n=>simp only[List.take_succ_cons,List.isPrefixOf];rw[ih w n (by simpa using h)]
theorem l8 (d:List UInt8):∀k,fL (d.take 3) k=fL d k
  | 0=>rfl
  | k+1=>by
    unfold fL;rw[l8 d k,xL _ _ _ (yh _)]
theorem kI (d:List UInt8) (m:Nat):∀n,n≤m→nY (d.take m) n=nY d n
  | 0,_=>rfl
  | n+1,h=>by
    unfold nY;rw[kI d m n (by omega),List.take_take,Nat.min_eq_left h]
def gy (d:List UInt8):Bool:=(fL d 17==(nY d (min 3 d.length)).1)&&((fV (nY d (min 3 d.length)).1).length==(nY d (min 3 d.length)).2)&&(cw (d.getD 0 0)==3||fL d 17==0)&&(cw (d.getD 0 0)!=3||(nY d (min 3 d.length)).2 != 0)
def kg:List UInt8:=0::nV
theorem tB:(kg.all fun a=>gy [a])=true:=by decide +kernel
theorem tA:(kg.all fun a=>kg.all fun b=>gy [a,b])=true:=by decide +kernel
theorem pU:(kg.all fun a=>kg.all fun b=>kg.all fun c=>gy [a,b,c])=true:=by decide +kernel
theorem jj:rG c∈kg:=by
  unfold rG;split
  ·rename_i h;exact List.mem_cons_of_mem _ (by simpa using h)
  ·exact List.mem_cons_self
theorem ve:(cw (rG c)==3)=(cw c==3):=by
  have:=bM (fun c=>(cw (rG c)==3)==(cw c==3)) (by decide +kernel) c
  simpa using this
theorem tC (d:List UInt8) (hd:d≠[]) (h:gy (d.map rG)=true):gy d=true:=by
  unfold gy at h ⊢;have e:(d.map rG).getD 0 0=rG (d.getD 0 0):=by
    cases d with
    | nil=>exact absurd rfl hd
    | cons a r=>rfl
  rw[nj,List.length_map,uJ,e,ve] at h;have e2:(cw (rG (d.getD 0 0))!=3)=(cw (d.getD 0 0)!=3):=by unfold bne;rw[ve]
  rw[e2] at h;exact h
theorem tD (d:List UInt8) (hd:d≠[]):gy d=true:=by
  have hs:gy (d.take 3)=true:=by
    refine tC _ (by cases d<;>simp_all) ?_
    match d,hd with
    | [a],_=>exact List.all_eq_true.1 tB _ (jj a)
    | [a,b],_=>exact List.all_eq_true.1 (List.all_eq_true.1 tA _ (jj a)) _ (jj b)
    | a::b::c::r,_=>exact List.all_eq_true.1 (List.all_eq_true.1 (List.all_eq_true.1 pU _ (jj a)) _ (jj b)) _ (jj c)
  unfold gy at hs ⊢;have e:(d.take 3).getD 0 0=d.getD 0 0:=by cases d<;>rfl
  have e2:min 3 (d.take 3).length=min 3 d.length:=by simp
  rw[l8,e2,kI _ _ _ (by omega),e] at hs;exact hs
theorem BL (l:List UInt8) (x:Nat) (hx:x<l.length):fL (l.drop x) 17=(eB l x).1∧(fV (eB l x).1).length=(eB l x).2∧(0<(eB l x).2↔cw (l.getD x 0)=3):=by
  have hd:l.drop x≠[]:=by intro h;have:=congrArg List.length h;simp at this;omega
  have h:=tD _ hd;have e:(l.drop x).getD 0 0=l.getD x 0:=by simp[List.getD_eq_getElem?_getD]
  unfold gy at h;rw[e,List.length_drop] at h;simp only[Bool.and_eq_true,beq_iff_eq,Bool.or_eq_true,bne_iff_ne] at h;obtain⟨⟨⟨h1,h2⟩,h3⟩,h4⟩:=h;unfold eB;by_cases hc:cw (l.getD x 0)=3
  ·rw[if_neg (fun h=>h hc)];refine⟨h1,h2,fun _=>hc,fun _=>?_⟩;rcases h4 with h4|h4
   ·exact absurd hc h4
   ·omega
  ·rw[if_pos hc];refine⟨?_,rfl,fun h=>by simp at h,fun h=>absurd h hc⟩;rcases h3 with h3|h3
   ·exact absurd h3 hc
   ·exact h3
def cg (l:List UInt8) (x:Nat):Nat:=x+((l.drop x).takeWhile fun c=>c.toNat != 10).length
def iF (t:Bool) (b:List UInt8):List UInt8:=if t=true then b.dropWhile (fun c=>c.toNat==9) else b
def lineE (l:List UInt8) (x:Nat):Nat:=if cg l x<l.length then cg l x+1 else cg l x
def nC (l w:List UInt8) (t:Bool):Nat→Nat→Nat×Bool
  | 0,x=>(x,false)
  | m+1,x=>if x<l.length then (if iF t (sub l x (cg l x))=w then (lineE l x,true) else nC l w t m (lineE l x)) else (x,false)
def cW (l:List UInt8) (x:Nat) (w:List UInt8) (t:Bool):Nat×Bool:=nC l w t (l.length-x) x
theorem iX (l:List UInt8) (x:Nat) (h:x≤l.length):x≤cg l x∧cg l x≤l.length:=by
  unfold cg
  have:=(List.takeWhile_prefix (l:=l.drop x) (fun c=>c.toNat != 10)).length_le
  simp at this;omega
theorem gM (l:List UInt8) (x:Nat) (h:x<l.length):x<lineE l x∧lineE l x≤l.length:=by
  have h1:=iX l x (by omega);unfold lineE;split
  ·omega
  ·constructor
   ·have:cg l x=l.length:=by omega
    omega
   ·omega
theorem nB (l w:List UInt8) (t:Bool):∀(m m' x:Nat),l.length-x≤m→l.length-x≤m'→nC l w t m x=nC l w t m' x
  | 0,m',x,h,h'=>by
    cases m' with
    | zero=>rfl
    | succ m'=>unfold nC;rw[if_neg (by omega)]
  | m+1,0,x,h,h'=>by unfold nC;rw[if_neg (by omega)]
  | m+1,m'+1,x,h,h'=>by
    unfold nC;by_cases hx:x<l.length
    ·have:=gM l x hx
     rw[if_pos hx,if_pos hx,nB l w t m m' (lineE l x) (by omega) (by omega)]
    ·rw[if_neg hx,if_neg hx]
theorem dC (l:List UInt8) (x:Nat) (w:List UInt8) (t:Bool):cW l x w t=if x<l.length then (if iF t (sub l x (cg l x))=w then (lineE l x,true) else cW l (lineE l x) w t) else (x,false):=by
  unfold cW;by_cases hx:x<l.length
  ·have:=gM l x hx
   obtain⟨m,hm⟩:∃m,l.length-x=m+1:=⟨l.length-x-1,by omega⟩;rw[hm];show (if x<l.length then _ else _)=_;rw[if_pos hx,if_pos hx,nB l w t m (l.length-lineE l x) (lineE l x) (by omega) (Nat.le_refl _)]
  ·rw[if_neg hx,show l.length-x=0 by omega];rfl
theorem nA (l w:List UInt8) (t:Bool):∀(m x:Nat),l.length-x=m→x<l.length→x<(cW l x w t).1∧(cW l x w t).1≤l.length∧((cW l x w t).2=false→(cW l x w t).1=l.length):=by
  intro m
  induction m using Nat.strongRecOn with
  | _ m ih=>
    intro x hm hx;rw[dC,if_pos hx]
    have:=gM l x hx
    by_cases hw:iF t (sub l x (cg l x))=w
    ·rw[if_pos hw];exact⟨this.1,this.2,fun h=>by cases h⟩
    ·rw[if_neg hw];by_cases hy:lineE l x<l.length
     ·have h2:=ih (l.length-lineE l x) (by omega) (lineE l x) rfl hy;exact⟨by omega,h2.2.1,h2.2.2⟩
     ·rw[dC,if_neg hy];exact⟨this.1,this.2,fun _=>by show lineE l x=_;omega⟩
def dq (c:UInt8):Bool:=c.toNat==32||c.toNat==9
def cP (l:List UInt8) (x:Nat):Bool:=x+1<l.length&&(l.getD x 0).toNat==92&&(l.getD (x+1) 0).toNat==10
def jb (l:List UInt8):Nat→Nat→Nat
  | 0,x=>x
  | m+1,x=>if x<l.length then (if dq (l.getD x 0)=true then jb l m (x+1) else if cP l x=true then jb l m (x+2) else x) else x
def cU (l:List UInt8) (x:Nat):Nat:=jb l (l.length-x) x
theorem gv (l:List UInt8):∀(m m' x:Nat),l.length-x≤m→l.length-x≤m'→jb l m x=jb l m' x
  | 0,m',x,h,h'=>by
    cases m' with
    | zero=>rfl
    | succ m'=>unfold jb;rw[if_neg (by omega)]
  | m+1,0,x,h,h'=>by unfold jb;rw[if_neg (by omega)]
  | m+1,m'+1,x,h,h'=>by
    unfold jb;rw[gv l m m' (x+1) (by omega) (by omega),gv l m m' (x+2) (by omega) (by omega)]
theorem dI (l:List UInt8) (x:Nat):cU l x=if x<l.length then (if dq (l.getD x 0)=true then cU l (x+1) else if cP l x=true then cU l (x+2) else x) else x:=by
  unfold cU;by_cases hx:x<l.length
  ·obtain⟨m,hm⟩:∃m,l.length-x=m+1:=⟨l.length-x-1,by omega⟩;rw[hm];show (if x<l.length then _ else _)=_;rw[if_pos hx,if_pos hx,gv l m (l.length-(x+1)) (x+1) (by omega) (Nat.le_refl _),gv l m (l.length-(x+2)) (x+2) (by omega) (Nat.le_refl _)]
  ·rw[if_neg hx,show l.length-x=0 by omega];rfl
theorem jx (l:List UInt8):∀(m x:Nat),l.length-x=m→x≤l.length→x≤cU l x∧cU l x≤l.length:=by
  intro m
  induction m using Nat.strongRecOn with
  | _ m ih=>
    intro x hm hx;rw[dI];by_cases hl:x<l.length
    ·rw[if_pos hl];split
     ·have:=ih (l.length-(x+1)) (by omega) (x+1) rfl (by omega);omega
     ·split
      ·rename_i hc;have hc2:x+1<l.length:=by unfold cP at hc;simp at hc;exact hc.1.1
       have:=ih (l.length-(x+2)) (by omega) (x+2) rfl (by omega);omega
      ·omega
    ·rw[if_neg hl];omega
theorem wi (l:List UInt8) (x:Nat) (hx:x<l.length):x<cU l x↔dq (l.getD x 0)=true∨cP l x=true:=by
  rw[dI,if_pos hx];split
  ·rename_i h
   have:=jx l _ (x+1) rfl (by omega)
   exact⟨fun _=>.inl h,fun _=>by omega⟩
  ·rename_i h;split
   ·rename_i hc;have hc2:x+1<l.length:=by unfold cP at hc;simp at hc;exact hc.1.1
    have:=jx l _ (x+2) rfl (by omega)
    exact⟨fun _=>.inr hc,fun _=>by omega⟩
   ·rename_i hc;exact⟨fun h2=>by omega,fun h2=>by rcases h2 with h2|h2;exact absurd h2 h;exact absurd h2 hc⟩
abbrev fA (l:List UInt8) (x:Nat):Nat:=br dL l x
def ik (l:List UInt8) (x:Nat):Bool:=decide (0<fA l x)&&decide (x+fA l x<l.length)&&((l.getD (x+fA l x) 0).toNat==60||(l.getD (x+fA l x) 0).toNat==62)
structure Tk where
  kd:Nat
  fr:Nat
  to:Nat
  op:Bool
abbrev Dl:=List UInt8×Bool
structure Lx where
  aw:Int
  pd:List Dl
  bd:Bool
def ux (w:List UInt8):Bool:=decide (F4 (cV w w.length).1=[])
def bI (l:List UInt8) (x:Nat):Tk:=
  if dq (l.getD x 0)=true∨cP l x=true then ⟨1,x,cU l x,false⟩
  else if (l.getD x 0).toNat=10 then ⟨2,x,x+1,false⟩
  else if (l.getD x 0).toNat=35 then ⟨3,x,cg l x,false⟩
  else if 0<(eB l x).2 then ⟨4,x,x+(eB l x).2,false⟩
  else if ik l x=true then ⟨5,x,x+fA l x,false⟩
  else ⟨6,x,x+fY l x,!ux (sub l x (x+fY l x))⟩
def dx (t:List UInt8) (k:Nat) (X:Lx):Lx:=
  if k=1 then ⟨X.aw,X.pd,false⟩
  else if k=2 then ⟨0,X.pd,!X.pd.isEmpty⟩
  else if k=4 then ⟨if eA t=4∨eA t=5 then (eA t:Int) else 0,X.pd,false⟩
  else if k=6 then ⟨0,if X.aw≠0 then X.pd++[(o9 (jN t),decide (X.aw=5))] else X.pd,false⟩
  else ⟨0,X.pd,false⟩
def i7 (l:List UInt8) (x:Nat) (X:Lx) (d:Dl) (r:List Dl):Tk×Lx:=
  if (cW l x d.1 d.2).2=true then (⟨7,x,(cW l x d.1 d.2).1,false⟩,⟨X.aw,r,!r.isEmpty⟩) else (⟨7,x,(cW l x d.1 d.2).1,true⟩,X)
def aC (l:List UInt8) (x:Nat) (X:Lx):Tk×Lx:=
  match X.bd,X.pd with
  | true,d::r=>i7 l x X d r
  | _,_=>(bI l x,dx (sub l x (bI l x).to) (bI l x).kd X)
def qg (l:List UInt8):Nat→Nat→Lx→List Tk×Lx
  | 0,_,X=>([],X)
  | m+1,x,X=>if x<l.length then ((aC l x X).1::(qg l m (aC l x X).1.to (aC l x X).2).1,(qg l m (aC l x X).1.to (aC l x X).2).2) else ([],X)
def iV:Lx:=⟨0,[],false⟩
def dV (l:List UInt8):List Tk×Lx:=qg l (l.length+1) 0 iV
theorem jf (l:List UInt8) (x n:Nat) (h:x≤l.length):sub l x (x+n)=(l.drop x).take n:=by unfold sub;rw[List.drop_take];congr 1;omega
theorem dZ (l:List UInt8) (x i:Nat):(l.drop x).getD i 0=l.getD (x+i) 0:=by simp[List.getD_eq_getElem?_getD]
theorem uf (p:UInt8→Bool):∀(m:List UInt8),(m.takeWhile p).length<m.length→p (m.getD (m.takeWhile p).length 0)=false
  | [],h=>by simp at h
  | b::m,h=>by
    by_cases hb:p b=true
    ·rw[List.takeWhile_cons,if_pos hb] at h ⊢;exact uf p m (by simpa using h)
    ·rw[List.takeWhile_cons,if_neg hb];simpa using hb
theorem ue (p:UInt8→Bool):∀(m:List UInt8) (k:Nat),(∀i,i<k→p (m.getD i 0)=true)→k<m.length→p (m.getD k 0)=false→(m.takeWhile p).length=k
  | [],k,_,h,_=>by simp at h
  | b::m,0,_,_,h=>by
    have hb:p b=false:=h;rw[List.takeWhile_cons,if_neg (by rw[hb];decide)];rfl
  | b::m,k+1,h1,h2,h3=>by
    have hb:p b=true:=h1 0 (by omega);rw[List.takeWhile_cons,if_pos hb,List.length_cons,ue p m k (fun i hi=>h1 (i+1) (by omega)) (by simpa using h2) h3]
theorem qM (l:List UInt8) (x i:Nat) (h:i<br p l x):p (l.getD (x+i) 0)=true:=by
  rw[←dZ];exact uh p (l.drop x) i h
theorem vz (l:List UInt8) (x:Nat) (h:x+br p l x<l.length):p (l.getD (x+br p l x) 0)=false:=by
  rw[←dZ];exact uf p (l.drop x) (by have:br p l x=((l.drop x).takeWhile p).length:=rfl;rw[List.length_drop];omega)
theorem vy (l:List UInt8) (x k:Nat) (h1:∀i,i<k→p (l.getD (x+i) 0)=true) (h2:x+k<l.length) (h3:p (l.getD (x+k) 0)=false):br p l x=k:=
  ue p (l.drop x) k (fun i hi=>by rw[dZ];exact h1 i hi) (by rw[List.length_drop];omega) (by rw[dZ];exact h3)
theorem ir (l:List UInt8) (x:Nat):cg l x=x+br (fun c=>c.toNat != 10) l x:=rfl
structure Ag (n:Nat) (l l':List UInt8):Prop where
  h:n≤l.length
  h':n≤l'.length
  e:∀i,i<n→l.getD i 0=l'.getD i 0
theorem Ag.symm (a:Ag n l l'):Ag n l' l:=⟨a.h',a.h,fun i hi=>(a.e i hi).symm⟩
theorem Ag.app (a b c:List UInt8):Ag a.length (a++b) (a++c):=⟨by simp,by simp,fun i hi=>by rw[List.getD_eq_getElem?_getD,List.getD_eq_getElem?_getD,List.getElem?_append_left hi,List.getElem?_append_left hi]⟩
theorem Ag.take (a:Ag n l l') (hy:y≤n):l.take y=l'.take y:=by
  refine List.ext_getElem? fun i=>?_
  rw[List.getElem?_take,List.getElem?_take];split
  ·rename_i hi
   have:=a.e i (by omega)
   rw[List.getD_eq_getElem?_getD,List.getD_eq_getElem?_getD,List.getElem?_eq_getElem (by have:=a.h;omega),List.getElem?_eq_getElem (by have:=a.h';omega)] at this;rw[List.getElem?_eq_getElem (by have:=a.h;omega),List.getElem?_eq_getElem (by have:=a.h';omega)];exact congrArg some this
  ·rfl
theorem Ag.sub (a:Ag n l l') (hy:y≤n):sub l x y=sub l' x y:=by unfold Go.Proofs.YtfagdpfgifgnoaaGreatDoor.sub;rw[a.take hy]
theorem Ag.span (a:Ag n l l') {p:UInt8→Bool} (h:x+br p l x<n):br p l' x=br p l x:=by
  have h1:=a.h;have h2:=a.h';refine vy p l' x _ (fun i hi=>?_) (by omega) ?_
  ·rw[←a.e _ (by omega)];exact qM p l x i hi
  ·rw[←a.e _ (by omega)];exact vz p l x (by omega)
theorem Ag.line (a:Ag n l l') (h:cg l x<n):cg l' x=cg l x:=by
  rw[ir,ir] at *;rw[a.span h]
theorem Ag.here (a:Ag n l l') (w:List UInt8) (t:Bool):∀(m x:Nat),l.length-x=m→x<l.length→(cW l x w t).1<n→cW l' x w t=cW l x w t:=by
  intro m
  induction m using Nat.strongRecOn with
  | _ m ih=>
    intro x hm hx h;have h1:=a.h;have h2:=a.h';have hle:=nA l w t _ x rfl hx;have hle2:=gM l x hx;have hln:=iX l x (by omega);have hnext:lineE l x≤(cW l x w t).1:=by
      rw[dC,if_pos hx];split
      ·exact Nat.le_refl _
      ·by_cases hy:lineE l x<l.length
       ·exact Nat.le_of_lt (nA l w t _ (lineE l x) rfl hy).1
       ·rw[dC,if_neg hy];exact Nat.le_refl _
    have hlt:cg l x<l.length:=by
      refine Nat.lt_of_not_le fun hh=>?_
      have:lineE l x=cg l x:=by unfold lineE;rw[if_neg (by omega)]
      omega
    have hE:lineE l x=cg l x+1:=by unfold lineE;rw[if_pos hlt]
    have hL:=a.line (x:=x) (by omega);have hE':lineE l' x=lineE l x:=by unfold lineE;rw[hL,if_pos hlt,if_pos (by omega)]
    have h0:=h;have hxl:x<l'.length:=by omega
    have hsub:=a.sub (x:=x) (y:=cg l x) (by omega);rw[dC] at h;rw[dC l' x,dC l x,if_pos hx,if_pos hxl,hL,hE',←hsub];rw[if_pos hx] at h;split
    ·rfl
    ·rename_i hw;rw[if_neg hw] at h;exact ih (l.length-lineE l x) (by omega) (lineE l x) rfl (by omega) h
theorem Ag.cont (a:Ag n l l') (h:x+1<n):cP l' x=cP l x:=by
  have h1:=a.h;have h2:=a.h';unfold cP;rw[a.e x (by omega),a.e (x+1) h,decide_eq_true (show x+1<l.length by omega),decide_eq_true (show x+1<l'.length by omega)]
theorem Ag.blank (a:Ag n l l'):∀(m x:Nat),l.length-x=m→x≤l.length→cU l x+2≤n→cU l' x=cU l x:=by
  intro m
  induction m using Nat.strongRecOn with
  | _ m ih=>
    intro x hm hx h;have h1:=a.h;have h2:=a.h';have hle:=jx l _ x rfl hx;have hx1:x<l.length:=by omega
    have hx2:x<l'.length:=by omega
    have ee:=a.e x (by omega);have ec:=a.cont (x:=x) (by omega);have h0:x+2≤l.length:=by omega
    rw[dI l' x,dI l x,if_pos hx1,if_pos hx2,←ee,ec];rw[dI l x,if_pos hx1] at h;split
    ·rename_i hb;rw[if_pos hb] at h;exact ih (l.length-(x+1)) (by omega) (x+1) rfl (by omega) h
    ·rename_i hb;rw[if_neg hb] at h;split
     ·rename_i hc;rw[if_pos hc] at h;exact ih (l.length-(x+2)) (by omega) (x+2) rfl (by omega) h
     ·rfl
theorem Ag.op (a:Ag n l l') (h:x+3≤n):eB l' x=eB l x:=by
  have h1:=a.h;have h2:=a.h';unfold eB;rw[a.e x (by omega),show min 3 (l.length-x)=3 by omega,show min 3 (l'.length-x)=3 by omega,←kI _ 3 3 (Nat.le_refl _),←kI (l.drop x) 3 3 (Nat.le_refl _)];have e:(l.drop x).take 3=(l'.drop x).take 3:=by
    rw[←jf l x 3 (by omega),←jf l' x 3 (by omega)];exact a.sub h
  rw[e]
theorem oE {l l':List UInt8}:∀(k:Nat),(∀i,i<k→l.getD i 0=l'.getD i 0)→cV l k=cV l' k
  | 0,_=>rfl
  | k+1,h=>by
    show bJ (cV l k).1 (cV l k).2 (l.getD k 0) k=bJ (cV l' k).1 (cV l' k).2 (l'.getD k 0) k;rw[oE k (fun i hi=>h i (by omega)),h k (by omega)]
theorem Ag.stop (a:Ag n l l') (h:x+j<n):cq l' x j=cq l x j:=by
  unfold cq;rw[a.e _ h,oE (l:=l'.drop x) (l':=l.drop x) j (fun i hi=>by rw[dZ,dZ,a.e _ (by omega)])]
theorem fD (s:Nat→Bool):∀(m k:Nat),k≤fZ s m k∧fZ s m k≤k+m∧(∀j,k≤j→j<fZ s m k→s j=false)∧(fZ s m k<k+m→s (fZ s m k)=true)
  | 0,k=>⟨Nat.le_refl _,Nat.le_refl _,fun j h1 h2=>by simp only[fZ] at h2;omega,fun h=>by simp only[fZ] at h;omega⟩
  | m+1,k=>by
    unfold fZ;by_cases hs:s k=true
    ·rw[if_pos hs];exact⟨Nat.le_refl _,by omega,fun j h1 h2=>by omega,fun _=>hs⟩
    ·rw[if_neg hs];obtain⟨h1,h2,h3,h4⟩:=fD s m (k+1);refine⟨by omega,by omega,fun j h5 h6=>?_,fun h=>h4 (by omega)⟩;by_cases e:j=k
     ·subst e;simpa using hs
     ·exact h3 j (by omega) h6
theorem vW (k e:Nat) (h1:k≤e) (h2:e<k+m) (h3:∀j,k≤j→j<e→s j=false) (h4:s e=true):fZ s m k=e:=by
  obtain⟨a1,a2,a3,a4⟩:=fD s m k;have b1:¬fZ s m k<e:=fun h=>by have:=h3 _ a1 h;rw[a4 (by omega)] at this;cases this
  have b2:¬e<fZ s m k:=fun h=>by have:=a3 _ h1 h;rw[h4] at this;cases this
  omega
theorem uZ (l:List UInt8) (x:Nat):fY l x≤l.length-x:=by
  have:=(fD (cq l x) (l.length-x) 0).2.1
  unfold fY;omega
theorem Ag.word (a:Ag n l l') (h:x+fY l x<n):fY l' x=fY l x:=by
  have h1:=a.h;have h2:=a.h';obtain⟨a1,a2,a3,a4⟩:=fD (cq l x) (l.length-x) 0;have e:fZ (cq l x) (l.length-x) 0=fY l x:=rfl;rw[e] at a1 a2 a3 a4;refine vW _ _ _ _ (by omega) (by omega) (fun j hj hj2=>?_) ?_
  ·rw[a.stop (by omega)];exact a3 j hj hj2
  ·rw[a.stop h];exact a4 (by omega)
theorem zG (h:dL c=true):dv c=false:=by
  have:=bM (fun c => !dL c || !dv c) (by decide +kernel) c
  simpa [h] using this
theorem zF (l:List UInt8) (x:Nat):fA l x≤fY l x:=by
  obtain⟨a1,a2,a3,a4⟩:=fD (cq l x) (l.length-x) 0;have e:fZ (cq l x) (l.length-x) 0=fY l x:=rfl;rw[e] at a1 a2 a3 a4;refine Nat.le_of_not_lt fun h=>?_
  have h1:fA l x≤l.length-x:=ej dL l x;have h2:=a4 (by omega);have h3:=zG _ (qM dL l x _ h);unfold cq lQ at h2;rw[h3] at h2;simp at h2
theorem Ag.num (a:Ag n l l') (h:x+fA l x<n):ik l' x=ik l x:=by
  have h1:=a.h;have h2:=a.h';have hs:fA l' x=fA l x:=a.span h;unfold ik;rw[hs,a.e _ h,decide_eq_true (show x+fA l x<l.length by omega),decide_eq_true (show x+fA l x<l'.length by omega)]
theorem rH (l:List UInt8) (x:Nat) (hx:x<l.length) (h:dv (l.getD x 0)=false):0<fY l x:=by
  obtain⟨a1,a2,a3,a4⟩:=fD (cq l x) (l.length-x) 0;have e:fZ (cq l x) (l.length-x) 0=fY l x:=rfl;rw[e] at a1 a2 a3 a4;refine Nat.pos_of_ne_zero fun h0=>?_
  rw[h0] at a4
  have:=a4 (by omega)
  unfold cq lQ at this;rw[Nat.add_zero,h] at this;simp at this
theorem Cs (h:dv c=true):dq c=true∨c.toNat=10∨cw c=3:=by
  have:=bM (fun c => !dv c||(dq c||c.toNat==10||cw c==3)) (by decide +kernel) c
  simpa [h,or_assoc] using this
theorem gI (l:List UInt8) (x:Nat) (hx:x<l.length):(bI l x).fr=x∧x<(bI l x).to∧(bI l x).to≤l.length∧1≤(bI l x).kd∧(bI l x).kd≤6:=by
  unfold bI;split
  ·rename_i h;have h1:=(wi l x hx).2 h;have h2:=jx l _ x rfl (by omega);exact⟨rfl,h1,h2.2,(by decide:1≤1),(by decide:1≤6)⟩
  ·rename_i h;split
   ·exact⟨rfl,Nat.lt_succ_self _,hx,(by decide:1≤2),(by decide:2≤6)⟩
   ·rename_i h10;split
    ·rename_i h35;have h1:=iX l x (by omega);refine⟨rfl,?_,h1.2,(by decide:1≤3),(by decide:3≤6)⟩;show x<cg l x
     have:((l.drop x).takeWhile fun c=>c.toNat != 10).length≠0:=by
       rw[List.drop_eq_getElem_cons hx,List.takeWhile_cons,if_pos]
       ·simp
       ·rw[List.getD_eq_getElem?_getD,List.getElem?_eq_getElem hx] at h35;have h35:(l[x]).toNat=35:=h35;rw[h35];rfl
     unfold cg;omega
    ·split
     ·rename_i hop;refine⟨rfl,?_,?_,(by decide:1≤4),(by decide:4≤6)⟩
      ·show x<x+_;omega
      ·show x+(eB l x).2≤l.length
       have:∀(d:List UInt8) (n:Nat),(nY d n).2≤n:=by
         intro d n
         induction n with
         | zero=>exact Nat.le_refl _
         | succ n ih=>unfold nY;split;exact Nat.le_refl _;omega
       unfold eB;split
       ·simp;omega
       ·have:=this (l.drop x) (min 3 (l.length-x));omega
     ·rename_i hop;split
      ·rename_i hn;unfold ik at hn;simp at hn;exact⟨rfl,by show x<x+_;omega,by show x+_≤_;omega,(by decide:1≤5),(by decide:5≤6)⟩
      ·rename_i hn;have he:dv (l.getD x 0)=false:=by
         cases h2:dv (l.getD x 0)
         ·rfl
         ·exfalso;rcases Cs _ h2 with h3|h3|h3
          ·exact h (.inl h3)
          ·exact h10 h3
          ·exact hop ((BL l x hx).2.2.2 h3)
       have h1:=rH l x hx he;have h2:=uZ l x;exact⟨rfl,by show x<x+_;omega,by show x+_≤_;omega,(by decide:1≤6),(by decide:6≤6)⟩
theorem Cy (l:List UInt8) (x:Nat) (hx:x<l.length) (X:Lx) (d:Dl) (r:List Dl):(i7 l x X d r).1.fr=x∧x<(i7 l x X d r).1.to∧(i7 l x X d r).1.to≤l.length∧(i7 l x X d r).1.kd=7:=by
  have h:=nA l d.1 d.2 _ x rfl hx;unfold i7;split
  ·exact⟨rfl,h.1,h.2.1,rfl⟩
  ·exact⟨rfl,h.1,h.2.1,rfl⟩
theorem cL (l:List UInt8) (x:Nat) (hx:x<l.length) (X:Lx):(aC l x X).1.fr=x∧x<(aC l x X).1.to∧(aC l x X).1.to≤l.length∧1≤(aC l x X).1.kd∧(aC l x X).1.kd≤7:=by
  have hp:=gI l x hx;unfold aC;split
  ·rename_i d r _ _
   have:=Cy l x hx X d r
   exact⟨this.1,this.2.1,this.2.2.1,by omega,by omega⟩
  ·exact⟨hp.1,hp.2.1,hp.2.2.1,hp.2.2.2.1,by have:=hp.2.2.2.2;show (bI l x).kd≤7;omega⟩
theorem Ag.plain (a:Ag n l l') (hx:x<l.length) (h:(bI l x).to+2≤n):bI l' x=bI l x:=by
  have h1:=a.h;have h2:=a.h';have hto:=gI l x hx;have ee:=a.e x (by omega);have ec:=a.cont (x:=x) (by omega);have eo:=a.op (x:=x) (by omega);unfold bI at h;unfold bI;rw[←ee,ec,eo];split
  ·rename_i hb;rw[if_pos hb] at h;rw[a.blank _ x rfl (by omega) h]
  ·rename_i hb;rw[if_neg hb] at h;split
   ·rfl
   ·rename_i h10;rw[if_neg h10] at h;split
    ·rename_i h35;rw[if_pos h35] at h;have h:cg l x+2≤n:=h;rw[a.line (by omega)]
    ·rename_i h35;rw[if_neg h35] at h;split
     ·rfl
     ·rename_i hop;rw[if_neg hop] at h;by_cases hn:ik l x=true
      ·rw[if_pos hn] at h;have h:x+fA l x+2≤n:=h;have hs:fA l' x=fA l x:=a.span (by show x+fA l x<n;omega);rw[a.num (by omega),if_pos hn,if_pos hn,hs]
      ·rw[if_neg hn] at h;have h:x+fY l x+2≤n:=h;have hd:=zF l x;rw[a.num (by omega),if_neg hn,if_neg hn,a.word (by omega),←a.sub (by omega)]
theorem Ag.step {n:Nat} {l l':List UInt8} (a:Ag n l l') {x:Nat} (hx:x<l.length) (X:Lx) (h:(aC l x X).1.to+2≤n):aC l' x X=aC l x X:=by
  unfold aC at h ⊢;split
  ·rename_i d r hb hp;rw[hb,hp] at h;have hh:(cW l x d.1 d.2).1+2≤n:=by
     simp only[i7] at h;split at h<;>exact h
   unfold i7;rw[a.here d.1 d.2 _ x rfl hx (by omega)]
  ·rename_i hne;have h:(bI l x).to+2≤n:=by
     split at h
     ·rename_i d r hb hp;exact absurd hp (fun hp=>hne d r hb hp)
     ·exact h
   rw[a.plain hx h,←a.sub (by omega)]
theorem oO (l:List UInt8):∀(m m' x:Nat) (X:Lx),l.length<m+x→l.length<m'+x→qg l m x X=qg l m' x X
  | 0,m',x,X,h,h'=>by
    cases m' with
    | zero=>rfl
    | succ m'=>unfold qg;rw[if_neg (by omega)]
  | m+1,0,x,X,h,h'=>by unfold qg;rw[if_neg (by omega)]
  | m+1,m'+1,x,X,h,h'=>by
    unfold qg;by_cases hx:x<l.length
    ·have:=cL l x hx X
     rw[if_pos hx,if_pos hx,oO l m m' _ _ (by omega) (by omega)]
    ·rw[if_neg hx,if_neg hx]
def jC (l:List UInt8) (x:Nat) (X:Lx):List Tk×Lx:=qg l (l.length+1-x) x X
theorem eD (l:List UInt8) (x:Nat) (X:Lx):jC l x X=if x<l.length then ((aC l x X).1::(jC l (aC l x X).1.to (aC l x X).2).1,(jC l (aC l x X).1.to (aC l x X).2).2) else ([],X):=by
  unfold jC;by_cases hx:x<l.length
  ·obtain⟨m,hm⟩:∃m,l.length+1-x=m+1:=⟨l.length-x,by omega⟩
   have:=cL l x hx X
   rw[hm];show (if x<l.length then _ else _)=_;rw[if_pos hx,if_pos hx,oO l m (l.length+1-(aC l x X).1.to) (aC l x X).1.to (aC l x X).2 (by omega) (by omega)]
  ·rw[if_neg hx];by_cases h0:l.length+1-x=0
   ·rw[h0];rfl
   ·obtain⟨m,hm⟩:∃m,l.length+1-x=m+1:=⟨l.length+1-x-1,by omega⟩;rw[hm];show (if x<l.length then _ else _)=_;rw[if_neg hx]
structure Tl (l l':List UInt8) (x x':Nat):Prop where
  h:x≤l.length
  h':x'≤l'.length
  e:l.drop x=l'.drop x'
theorem Tl.len (a:Tl l l' x x'):l.length-x=l'.length-x':=by
  have:=congrArg List.length a.e
  simpa using this
theorem Tl.next (a:Tl l l' x x') (hk:x+k≤l.length):Tl l l' (x+k) (x'+k):=
  ⟨hk,by have:=a.len;have:=a.h';omega,by rw[←List.drop_drop,←List.drop_drop,a.e]⟩
theorem Tl.get (a:Tl l l' x x') (k:Nat):l'.getD (x'+k) 0=l.getD (x+k) 0:=by rw[←dZ,←dZ,a.e]
theorem Tl.get0 (a:Tl l l' x x'):l'.getD x' 0=l.getD x 0:=a.get 0
theorem Tl.lt (a:Tl l l' x x'):x<l.length↔x'<l'.length:=by have:=a.len;have:=a.h;have:=a.h';omega
theorem Tl.span (a:Tl l l' x x') (p:UInt8→Bool):br p l' x'=br p l x:=by unfold br;rw[a.e]
theorem Tl.sub (a:Tl l l' x x') (n:Nat):sub l' x' (x'+n)=sub l x (x+n):=by rw[jf _ _ _ a.h',jf _ _ _ a.h,a.e]
theorem Tl.line (a:Tl l l' x x'):∃n,cg l x=x+n∧cg l' x'=x'+n:=
  ⟨_,ir l x,by rw[ir,a.span]⟩
theorem Tl.lineE (a:Tl l l' x x'):∃n,lineE l x=x+n∧lineE l' x'=x'+n:=by
  obtain⟨n,h1,h2⟩:=a.line;have h3:=a.len;have h4:=a.h;have h5:=a.h';unfold Go.Proofs.YtfagdpfgifgnoaaGreatDoor.lineE;rw[h1,h2];by_cases h:x+n<l.length
  ·rw[if_pos h,if_pos (by omega)];exact⟨n+1,rfl,rfl⟩
  ·rw[if_neg h,if_neg (by omega)];exact⟨n,rfl,rfl⟩
theorem Tl.here:∀(m x x':Nat),l.length-x=m→Tl l l' x x'→∃n,(cW l x w t).1=x+n∧(cW l' x' w t).1=x'+n∧(cW l' x' w t).2=(cW l x w t).2:=by
  intro m
  induction m using Nat.strongRecOn with
  | _ m ih=>
    intro x x' hm a;rw[dC l x,dC l' x'];by_cases hx:x<l.length
    ·rw[if_pos hx,if_pos (a.lt.1 hx)];obtain⟨n,h1,h2⟩:=a.line;obtain⟨e,e1,e2⟩:=a.lineE;have hs:=a.sub n;rw[←h1,←h2] at hs;rw[hs];by_cases hw:iF t (Go.Proofs.YtfagdpfgifgnoaaGreatDoor.sub l x (cg l x))=w
     ·rw[if_pos hw,if_pos hw];exact⟨e,e1,e2,rfl⟩
     ·rw[if_neg hw,if_neg hw];have hle:=gM l x hx;obtain⟨k,k1,k2,k3⟩:=ih (l.length-Go.Proofs.YtfagdpfgifgnoaaGreatDoor.lineE l x) (by omega) (Go.Proofs.YtfagdpfgifgnoaaGreatDoor.lineE l x) (Go.Proofs.YtfagdpfgifgnoaaGreatDoor.lineE l' x') rfl (by rw[e1,e2];exact a.next (by omega));exact⟨e+k,by omega,by omega,k3⟩
    ·rw[if_neg hx,if_neg (fun h=>hx (a.lt.2 h))];exact⟨0,rfl,rfl,rfl⟩
theorem Tl.cont (a:Tl l l' x x'):cP l' x'=cP l x:=by
  have h3:=a.len;have h4:=a.h;have h5:=a.h';unfold cP;rw[a.get0,a.get 1,show decide (x'+1<l'.length)=decide (x+1<l.length) from decide_eq_decide.2 (by omega)]
theorem Tl.blank:∀(m x x':Nat),l.length-x=m→Tl l l' x x'→∃n,cU l x=x+n∧cU l' x'=x'+n:=by
  intro m
  induction m using Nat.strongRecOn with
  | _ m ih=>
    intro x x' hm a;rw[dI l x,dI l' x',a.get0,a.cont];by_cases hx:x<l.length
    ·rw[if_pos hx,if_pos (a.lt.1 hx)];by_cases hb:dq (l.getD x 0)=true
     ·rw[if_pos hb,if_pos hb];obtain⟨n,h1,h2⟩:=ih (l.length-(x+1)) (by omega) (x+1) (x'+1) rfl (a.next (by omega));exact⟨1+n,by omega,by omega⟩
     ·rw[if_neg hb,if_neg hb];by_cases hc:cP l x=true
      ·have hc2:x+1<l.length:=by unfold cP at hc;simp at hc;exact hc.1.1
       rw[if_pos hc,if_pos hc];obtain⟨n,h1,h2⟩:=ih (l.length-(x+2)) (by omega) (x+2) (x'+2) rfl (a.next (by omega));exact⟨2+n,by omega,by omega⟩
      ·rw[if_neg hc,if_neg hc];exact⟨0,rfl,rfl⟩
    ·rw[if_neg hx,if_neg (fun h=>hx (a.lt.2 h))];exact⟨0,rfl,rfl⟩
theorem Tl.op (a:Tl l l' x x'):eB l' x'=eB l x:=by
  unfold eB;rw[a.get0,a.e,a.len]
theorem Tl.word (a:Tl l l' x x'):fY l' x'=fY l x:=by
  unfold fY;rw[show cq l' x'=cq l x from funext fun j=>by unfold cq;rw[a.e,a.get j],a.len]
theorem Tl.num (a:Tl l l' x x'):ik l' x'=ik l x:=by
  have h3:=a.len;have h4:=a.h;have h5:=a.h';unfold ik fA;rw[a.span,a.get,show decide (x'+br dL l x<l'.length)=decide (x+br dL l x<l.length) from decide_eq_decide.2 (by omega)]
def C8 (d d':Nat) (t:Tk):Tk:=⟨t.kd,t.fr-d+d',t.to-d+d',t.op⟩
theorem iU (d d' k x n:Nat) (o:Bool) (h:d≤x):C8 d d' ⟨k,x,x+n,o⟩=⟨k,x-d+d',x-d+d'+n,o⟩:=by
  unfold C8;simp only[Tk.mk.injEq,true_and,and_true];omega
theorem Tl.plain {d:Nat} (h:d≤x) (a:Tl l l' x (x-d+d')):bI l' (x-d+d')=C8 d d' (bI l x):=by
  unfold bI;rw[a.get0,a.cont,a.op,a.num,a.word];obtain⟨n,h1,h2⟩:=Tl.blank _ x _ rfl a;obtain⟨m,m1,m2⟩:=a.line;rw[h1,h2,m1,m2,a.sub,show fA l' (x-d+d')=fA l x from a.span dL];split
  ·rw[iU _ _ _ _ _ _ h]
  ·split
   ·rw[iU _ _ _ _ _ _ h]
   ·split
    ·rw[iU _ _ _ _ _ _ h]
    ·split
     ·rw[iU _ _ _ _ _ _ h]
     ·split
      ·rw[iU _ _ _ _ _ _ h]
      ·rw[iU _ _ _ _ _ _ h]
theorem Tl.step {l l':List UInt8} {x d d':Nat} (h:d≤x) (a:Tl l l' x (x-d+d')) (hx:x<l.length) (X:Lx):aC l' (x-d+d') X=(C8 d d' (aC l x X).1,(aC l x X).2):=by
  have hto:=gI l x hx;unfold aC;split
  ·rename_i e r _ _;obtain⟨n,h1,h2,h3⟩:=Tl.here e.1 e.2 _ x _ rfl a;unfold i7;rw[h3,h2,h1];split
   ·rw[iU _ _ _ _ _ _ h]
   ·rw[iU _ _ _ _ _ _ h]
  ·rw[Tl.plain h a];obtain⟨n,hn⟩:∃n,(bI l x).to=x+n:=⟨(bI l x).to-x,by omega⟩;have e1:(C8 d d' (bI l x)).to=x-d+d'+n:=by show (bI l x).to-d+d'=_;omega
   rw[e1,a.sub,hn];rfl
def tm (l:List UInt8):Nat→Nat→Lx→List (Tk×Lx)
  | 0,_,_=>[]
  | m+1,x,X=>if x<l.length then ((aC l x X).1,X)::tm l m (aC l x X).1.to (aC l x X).2 else []
theorem oH (l:List UInt8):∀(m m' x:Nat) (X:Lx),l.length<m+x→l.length<m'+x→tm l m x X=tm l m' x X
  | 0,m',x,X,h,h'=>by
    cases m' with
    | zero=>rfl
    | succ m'=>unfold tm;rw[if_neg (by omega)]
  | m+1,0,x,X,h,h'=>by unfold tm;rw[if_neg (by omega)]
  | m+1,m'+1,x,X,h,h'=>by
    unfold tm;by_cases hx:x<l.length
    ·have:=cL l x hx X
     rw[if_pos hx,if_pos hx,oH l m m' _ _ (by omega) (by omega)]
    ·rw[if_neg hx,if_neg hx]
def cN (l:List UInt8) (x:Nat) (X:Lx):List (Tk×Lx):=tm l (l.length+1-x) x X
theorem cx (l:List UInt8) (x:Nat) (X:Lx):cN l x X=if x<l.length then ((aC l x X).1,X)::cN l (aC l x X).1.to (aC l x X).2 else []:=by
  unfold cN;by_cases hx:x<l.length
  ·obtain⟨m,hm⟩:∃m,l.length+1-x=m+1:=⟨l.length-x,by omega⟩
   have:=cL l x hx X
   rw[hm];show (if x<l.length then _ else _)=_;rw[if_pos hx,if_pos hx,oH l m (l.length+1-(aC l x X).1.to) (aC l x X).1.to (aC l x X).2 (by omega) (by omega)]
  ·rw[if_neg hx];by_cases h0:l.length+1-x=0
   ·rw[h0];rfl
   ·obtain⟨m,hm⟩:∃m,l.length+1-x=m+1:=⟨l.length+1-x-1,by omega⟩;rw[hm];show (if x<l.length then _ else _)=_;rw[if_neg hx]
theorem kw {P:Nat→Lx→Prop} (l:List UInt8) (h0:∀x X,¬x<l.length→P x X) (h1:∀x X,x<l.length→P (aC l x X).1.to (aC l x X).2→P x X):∀x X,P x X:=by
  suffices h:∀m x X,l.length-x=m→P x X from fun x X=>h _ x X rfl
  intro m
  induction m using Nat.strongRecOn with
  | _ m ih=>
    intro x X hm;by_cases hx:x<l.length
    ·have:=cL l x hx X
     exact h1 x X hx (ih _ (by omega) _ _ rfl)
    ·exact h0 x X hx
theorem Tl.plc {d:Nat}:∀(x:Nat) (X:Lx),d≤x→Tl l l' x (x-d+d')→cN l' (x-d+d') X=(cN l x X).map (fun p=>(C8 d d' p.1,p.2))∧(jC l' (x-d+d') X).2=(jC l x X).2:=
  kw l (fun x X hx h a=>by
      have hx':¬x-d+d'<l'.length:=fun h=>hx (a.lt.2 h)
      rw[cx,cx l,eD,eD l,if_neg hx,if_neg hx,if_neg hx',if_neg hx'];exact⟨rfl,rfl⟩)
    (fun x X hx ih h a=>by
      have hx':=a.lt.1 hx;have hto:=cL l x hx X;have hs:=a.step h hx X;rw[cx,cx l,eD,eD l,if_pos hx,if_pos hx,if_pos hx',if_pos hx',hs];have e1:(C8 d d' (aC l x X).1).to=(aC l x X).1.to-d+d':=rfl;have ih:=ih (by omega) (by
        have:=a.next (k:=(aC l x X).1.to-x) (by omega)
        rwa [show x+((aC l x X).1.to-x)=(aC l x X).1.to by omega,show x-d+d'+((aC l x X).1.to-x)=(aC l x X).1.to-d+d' by omega] at this)
      simp only[e1,ih.1,ih.2,List.map_cons,and_self])
def iJ (l:List UInt8):Nat→Nat→Lx→Nat×Lx
  | 0,x,X=>(x,X)
  | k+1,x,X=>if x<l.length then iJ l k (aC l x X).1.to (aC l x X).2 else (x,X)
theorem pD (l:List UInt8):∀k x X,x≤l.length→(iJ l k x X).1≤l.length
  | 0,x,X,h=>h
  | k+1,x,X,h=>by
    unfold iJ;by_cases hx:x<l.length
    ·rw[if_pos hx];exact pD l k _ _ (cL l x hx X).2.2.1
    ·rw[if_neg hx];exact h
theorem gH (l:List UInt8):∀k x X,cN l x X=(cN l x X).take k++cN l (iJ l k x X).1 (iJ l k x X).2∧(jC l x X).2=(jC l (iJ l k x X).1 (iJ l k x X).2).2
  | 0,x,X=>⟨by simp[iJ],rfl⟩
  | k+1,x,X=>by
    unfold iJ;by_cases hx:x<l.length
    ·rw[if_pos hx];obtain⟨h1,h2⟩:=gH l k (aC l x X).1.to (aC l x X).2;rw[cx l x X,if_pos hx,eD l x X,if_pos hx,List.take_succ_cons,List.cons_append,←h1];exact⟨rfl,h2⟩
    ·rw[if_neg hx,cx l x X,if_neg hx];exact⟨by simp,rfl⟩
theorem iP (l:List UInt8) (k x:Nat) (X:Lx) (h:k≤(cN l x X).length):(cN l x X).drop k=cN l (iJ l k x X).1 (iJ l k x X).2:=by
  have h1:=(gH l k x X).1;have h2:=List.take_append_drop k (cN l x X);exact List.append_cancel_left (h2.trans h1)
theorem pN {X:Lx} {p:Tk×Lx} (h:(cN l x X)[k]? = some p):(iJ l k x X).1<l.length∧p=((aC l (iJ l k x X).1 (iJ l k x X).2).1,(iJ l k x X).2):=by
  have hk:k<(cN l x X).length:=(List.getElem?_eq_some_iff.1 h).1;have h1:=iP l k x X (by omega);have h2:((cN l x X).drop k)[0]? = some p:=by rw[List.getElem?_drop];exact h
  rw[h1,cx] at h2;by_cases hx:(iJ l k x X).1<l.length
  ·rw[if_pos hx] at h2;injection h2 with h2
   exact⟨hx,h2.symm⟩
  ·rw[if_neg hx] at h2;cases h2
theorem BD {X:Lx} (hx:x≤l.length):iJ l (cN l x X).length x X=(l.length,(jC l x X).2):=by
  have h1:=iP l _ x X (Nat.le_refl _);have h2:=(gH l (cN l x X).length x X).2;have h3:=pD l (cN l x X).length x X hx;generalize iJ l (cN l x X).length x X=s at h1 h2 h3;rw[List.drop_length,cx] at h1;by_cases hs:s.1<l.length
  ·rw[if_pos hs] at h1;cases h1
  ·rw[h2,eD,if_neg hs];exact Prod.ext (show s.1=l.length by omega) rfl
theorem dM (l:List UInt8):∀x X,∀p∈cN l x X,x≤p.1.fr∧p.1.fr<p.1.to∧p.1.to≤l.length:=
  kw l (fun x X h p hp=>by rw[cx,if_neg h] at hp;cases hp) (fun x X h ih p hp=>by
    have hto:=cL l x h X;rw[cx,if_pos h] at hp;rcases List.mem_cons.1 hp with rfl|hp
    ·exact⟨by show x≤(aC l x X).1.fr;omega,by show (aC l x X).1.fr<(aC l x X).1.to;omega,hto.2.2.1⟩
    ·have:=ih p hp
     exact⟨by omega,this.2⟩)
theorem iO {X:Lx} {p q:Tk×Lx} (hi:(cN l x X)[i]? = some p) (hj:(cN l x X)[j]? = some q) (hij:i<j):p.1.to≤q.1.fr:=by
  have hi2:=pN hi;have hil:i<(cN l x X).length:=(List.getElem?_eq_some_iff.1 hi).1;have h1:=iP l i x X (by omega);have h2:((cN l x X).drop i)[j-i]? = some q:=by rw[List.getElem?_drop,show i+(j-i)=j by omega];exact hj
  rw[h1,cx,if_pos hi2.1,show j-i=(j-i-1)+1 by omega,List.getElem?_cons_succ] at h2
  have:=(dM l _ _ q (List.mem_of_getElem? h2)).1
  rw[hi2.2];exact this
theorem nh {X:Lx} {p:Tk×Lx} (hi:(cN l x X)[i]? = some p):p.1.fr=(iJ l i x X).1∧p.2=(iJ l i x X).2:=by
  obtain⟨h1,h2⟩:=pN hi
  have:=cL l _ h1 (iJ l i x X).2
  rw[h2];exact⟨this.1,rfl⟩
theorem DG {X:Lx} {p q:Tk×Lx} (hi:(cN l x X)[i]? = some p) (hj:(cN l x X)[j]? = some q) (h:p.1.fr≤q.1.fr):i≤j:=by
  have h1:=dM l _ _ p (List.mem_of_getElem? hi);refine Nat.le_of_not_lt fun h3=>?_
  have h2:=dM l _ _ q (List.mem_of_getElem? hj)
  have:=iO hj hi h3
  omega
theorem Ag.plc {n:Nat} {l l':List UInt8} (a:Ag n l l'):∀k x X,(∀i p,i<k→(cN l x X)[i]? = some p→p.1.to+2≤n)→k≤(cN l x X).length→x≤l'.length →
    cN l' x X=(cN l x X).take k++cN l' (iJ l k x X).1 (iJ l k x X).2∧(jC l' x X).2=(jC l' (iJ l k x X).1 (iJ l k x X).2).2∧(iJ l k x X).1≤l'.length
  | 0,x,X,_,_,hx'=>⟨by simp[iJ],rfl,hx'⟩
  | k+1,x,X,h,hk,hx'=>by
    have h1:=a.h;have h2:=a.h';by_cases hx:x<l.length
    ·have hto:=cL l x hx X;rw[cx l x X,if_pos hx] at h hk ⊢;have ht:=h 0 _ (by omega) rfl;have ht:(aC l x X).1.to+2≤n:=ht;have hs:=a.step hx X ht;have hx2:x<l'.length:=by omega
     obtain⟨i1,i2,i3⟩:=Ag.plc a k (aC l x X).1.to (aC l x X).2 (fun i p hi hp=>h (i+1) p (by omega) (by rw[List.getElem?_cons_succ];exact hp)) (by simpa using hk) (by omega);unfold iJ;rw[if_pos hx,cx l' x X,if_pos hx2,eD l' x X,if_pos hx2,hs,List.take_succ_cons,List.cons_append,←i1];exact⟨rfl,i2,i3⟩
    ·rw[cx,if_neg hx] at hk;simp at hk
structure Ed where
  a:List UInt8
  d:List UInt8
  i:List UInt8
  c:List UInt8
def Ed.old (e:Ed):List UInt8:=e.a++(e.d++e.c)
def Ed.new (e:Ed):List UInt8:=e.a++(e.i++e.c)
theorem Ed.ag (e:Ed):Ag e.a.length e.old e.new:=Ag.app e.a (e.d++e.c) (e.i++e.c)
theorem Ed.tl (e:Ed) (h:e.a.length+e.d.length≤x) (hx:x≤e.old.length):Tl e.old e.new x (x-e.d.length+e.i.length):=by
  obtain⟨k,rfl⟩:∃k,x=e.a.length+e.d.length+k:=⟨x-(e.a.length+e.d.length),by omega⟩;unfold Ed.old at hx;simp only[List.length_append] at hx;refine⟨by unfold Ed.old;simp only[List.length_append];omega,by unfold Ed.new;simp only[List.length_append];omega,?_⟩;unfold Ed.old Ed.new
  rw[←List.append_assoc,←List.append_assoc,show e.a.length+e.d.length+k-e.d.length+e.i.length=e.a.length+e.i.length+k by omega,
    ←List.length_append,←List.length_append,←List.drop_drop,←List.drop_drop,List.drop_left,List.drop_left]
abbrev cM (l:List UInt8):List (Tk×Lx):=cN l 0 iV
def nZ (l:List UInt8) (a:Nat):Nat:=((cM l).takeWhile fun p=>decide (p.1.to+2≤a)).length
theorem wF {α:Type} (p:α→Bool):∀(L:List α) (i:Nat) (y:α),i<(L.takeWhile p).length→L[i]? = some y→p y=true
  | [],i,y,h,_=>by simp at h
  | b::L,i,y,h,hy=>by
    by_cases hb:p b=true
    ·rw[List.takeWhile_cons,if_pos hb] at h
     cases i with
     | zero=>simp at hy;subst hy;exact hb
     | succ i=>exact wF p L i y (by simpa using h) (by simpa using hy)
    ·rw[List.takeWhile_cons,if_neg hb] at h;simp at h
theorem wG {α:Type} (p:α→Bool):∀(L:List α) (y:α),L[(L.takeWhile p).length]? = some y→p y=false
  | [],y,hy=>by simp at hy
  | b::L,y,hy=>by
    by_cases hb:p b=true
    ·rw[List.takeWhile_cons,if_pos hb] at hy;exact wG p L y (by simpa using hy)
    ·rw[List.takeWhile_cons,if_neg hb] at hy;simp at hy;subst hy;simpa using hb
theorem qi (l:List UInt8) (a:Nat):nZ l a≤(cM l).length:=(List.takeWhile_prefix _).length_le
theorem qj {a:Nat} {p:Tk×Lx} (h:(cM l)[i]? = some p):p.1.to+2≤a↔i<nZ l a:=by
  constructor
  ·intro hp;refine Nat.lt_of_not_le fun hi=>?_
   have hlt:nZ l a<(cM l).length:=Nat.lt_of_le_of_lt hi (List.getElem?_eq_some_iff.1 h).1;obtain⟨q,hq⟩:∃q,(cM l)[nZ l a]? = some q:=⟨_,List.getElem?_eq_getElem hlt⟩;have h1:=wG _ _ q hq;simp only[decide_eq_false_iff_not] at h1;rcases Nat.lt_or_ge (nZ l a) i with h2|h2
   ·have h3:=iO hq h h2;have h4:=dM l _ _ p (List.mem_of_getElem? h);omega
   ·obtain rfl:i=nZ l a:=by omega
    rw[h] at hq;injection hq with hq
    rw[←hq] at h1;exact h1 hp
  ·intro hi
   have:=wF _ _ i p hi h
   simpa using this
abbrev qT (l:List UInt8) (n:Nat):Nat×Lx:=iJ l n 0 iV
theorem Bc {p:Tk×Lx} (h:(cM l)[n]? = some p):qT l n=(p.1.fr,p.2):=by
  obtain⟨h1,h2⟩:=nh h;exact Prod.ext h1.symm h2.symm
theorem Be (l:List UInt8):qT l (cM l).length=(l.length,(dV l).2):=BD (Nat.zero_le _)
theorem Ed.head (e:Ed):cM e.new=(cM e.old).take (nZ e.old e.a.length)++cN e.new (qT e.old (nZ e.old e.a.length)).1 (qT e.old (nZ e.old e.a.length)).2 ∧
    (dV e.new).2=(jC e.new (qT e.old (nZ e.old e.a.length)).1 (qT e.old (nZ e.old e.a.length)).2).2∧(qT e.old (nZ e.old e.a.length)).1≤e.new.length:=
  e.ag.plc _ 0 iV (fun i p hi hp=>(qj hp).2 hi) (qi _ _) (Nat.zero_le _)
structure Mt (e:Ed) (i j:Nat):Prop where
  w:∃p q,(cM e.old)[i]? = some p∧(cM e.new)[j]? = some q∧e.a.length+e.d.length≤p.1.fr∧q.1.fr=p.1.fr-e.d.length+e.i.length∧p.2=q.2
theorem Mt.mono {e:Ed} (h:Mt e i j) (h':Mt e i' j') (hj:j≤j'):i≤i':=by
  obtain⟨p,q,h1,h2,h3,h4,h5⟩:=h.w;obtain⟨p',q',g1,g2,g3,g4,g5⟩:=h'.w;refine DG h1 g1 ?_;rcases Nat.eq_or_lt_of_le hj with rfl|hj
  ·rw[h2] at g2;injection g2 with g2
   rw[g2] at h4;omega
  ·have:=iO h2 g2 hj
   have:=dM e.new _ _ q (List.mem_of_getElem? h2)
   omega
theorem Mt.tail {e:Ed} (h:Mt e i j):(cM e.new).drop j=((cM e.old).drop i).map (fun p=>(C8 e.d.length e.i.length p.1,p.2))∧(dV e.new).2=(dV e.old).2 ∧
    (∀p∈(cM e.old).drop i,e.d.length≤p.1.fr∧e.d.length≤p.1.to):=by
  obtain⟨p,q,h1,h2,h3,h4,h5⟩:=h.w;obtain⟨a1,a2⟩:=pN h1;obtain⟨b1,b2⟩:=nh h1;obtain⟨c1,c2⟩:=nh h2;have hi:i<(cM e.old).length:=(List.getElem?_eq_some_iff.1 h1).1;have hj:j<(cM e.new).length:=(List.getElem?_eq_some_iff.1 h2).1;have hd:=iP e.old i 0 iV (Nat.le_of_lt hi);have hx:p.1.fr≤e.old.length:=by have:=dM e.old _ _ p (List.mem_of_getElem? h1);omega
  have ht:=Tl.plc (l:=e.old) (l':=e.new) (d:=e.d.length) (d':=e.i.length) p.1.fr p.2 (by omega) (e.tl h3 hx);have hs:=(gH e.old i 0 iV).2;have hs':=(gH e.new j 0 iV).2;rw[←b1,←b2] at hd hs;rw[←c1,←c2,h4,←h5] at hs';refine⟨?_,?_,?_⟩
  ·rw[iP e.new j 0 iV (Nat.le_of_lt hj),←c1,←c2,h4,←h5,ht.1,hd]
  ·exact hs'.trans (ht.2.trans hs.symm)
  ·intro r hr;rw[show (cM e.old).drop i=cN e.old p.1.fr p.2 from hd] at hr
   have:=dM e.old _ _ r hr
   omega
structure jd (e:Ed) (T:Nat):Prop where
  w:(T=0∧∀i j,¬Mt e i j)∨∃i j,Mt e i j∧(∀i' j',Mt e i' j'→i≤i')∧T=(cM e.old).length-i
theorem jd.none {e:Ed} (h:∀j,j<(cM e.new).length→∀i,¬Mt e i j):jd e 0:=
  ⟨.inl ⟨rfl,fun i j hm=>by
    obtain⟨p,q,h1,h2,_⟩:=hm.w;exact h j (List.getElem?_eq_some_iff.1 h2).1 i hm⟩⟩
theorem jd.some {e:Ed} (hm:Mt e i j) (h:∀j',j'<j→∀i',¬Mt e i' j'):jd e ((cM e.old).length-i):=
  ⟨.inr ⟨i,j,hm,fun i' j' hm'=>hm.mono hm' (Nat.le_of_not_lt fun hj=>h j' hj i' hm'),rfl⟩⟩
theorem Ed.nohead (e:Ed):∀j,j<nZ e.old e.a.length→∀i,¬Mt e i j:=by
  intro j hj i hm;obtain⟨p,q,h1,h2,h3,h4,h5⟩:=hm.w;have h6:=e.head.1;have hl:j<((cM e.old).take (nZ e.old e.a.length)).length:=by rw[List.length_take];have:=qi e.old e.a.length;omega
  rw[h6,List.getElem?_append_left hl,List.getElem?_take,if_pos hj] at h2;have h7:=(qj h2).2 hj;have h8:=dM e.old _ _ q (List.mem_of_getElem? h2);omega
end Go.Proofs.YtfagdpfgifgnoaaGreatDoor
