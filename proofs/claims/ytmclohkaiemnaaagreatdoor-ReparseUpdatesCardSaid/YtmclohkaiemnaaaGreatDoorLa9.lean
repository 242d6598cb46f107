/- Each part by the frames that make it: from where to where it goes. No program is in sight. -/
import Derived.Test.YtmclohkaiemnaaaGreatDoorPl6
import Derived.Test.YtmclohkaiemnaaaGreatDoorCls
set_option linter.unusedVariables false
set_option linter.unusedSimpArgs false
set_option maxRecDepth 100000
set_option maxHeartbeats 8000000
namespace Go.Proofs.YtmclohkaiemnaaaGreatDoor
variable {a:Int} {L:List fP} {l l':List UInt8} {f k i y x N n j x' d' i' j':Nat} {q:fP} {st r:fK} {d:UInt8} (w:List UInt8) (s:Nat→Bool) (p:UInt8→Bool) (c:UInt8) (b:List UInt8) (t:Bool) (m:Nat)
def jZ (l:List UInt8) (f k:Nat):Prop:=(f:Int)∈fu (FT l k)
theorem Hu (h:jZ l f k):f<k:=by have:=(oR l k).2 _ h;omega
theorem AV (h:jZ l f (k+1)) (hk:k≠f):jZ l f k:=by
  obtain⟨j,A,B,hF,hj,hA,hB⟩:=mH l k;unfold jZ at h;rw[hF,fu,bG] at h;rcases bM.1 h with h|h
  ·have h':(f:Int)∈fu A:=h;rw[hA] at h';exact cC h'
  ·rcases hB with rfl|⟨c,rfl⟩
   ·cases h
   ·simp at h;omega
theorem AU (h:jZ l f k):∀j,f<j→j≤k→jZ l f j:=by
  induction k with
  | zero=>intro j h1 h2;have:=Hu h;omega
  | succ k ih=>
    intro j h1 h2;by_cases e:j=k+1
    ·subst e;exact h
    ·exact ih (AV h (by omega)) j h1 (by omega)
theorem Fy (h:jZ l f (f+1)):∃A c,FT l (f+1)=A++[(c,(f:Int))]∧∀p∈fu A,p∈fu (FT l f):=by
  obtain⟨j,A,B,hF,hj,hA,hB⟩:=mH l f;have hs:∀p∈fu A,p∈fu (FT l f):=fun p hp=>by rw[hA] at hp;exact cC hp
  rcases hB with rfl|⟨c,rfl⟩
  ·unfold jZ at h;rw[hF,bB] at h
   have:=(oR l f).2 _ (hs _ h)
   omega
  ·exact⟨A,c,hF,hs⟩
theorem AM:zv c=12↔c.toNat=76:=by
  have:=gh (fun c=>decide (zv c=12)==decide (c.toNat=76)) (by decide +kernel) c
  simpa using this
theorem Ce {c:UInt8} (h:(c,(f:Int))∈FT l k) (hc:c.toNat=76):k=f+1∧∃d p r,(iA l k).1=(76,(f:Int))::(d,p)::r:=by
  have hm:(c,(f:Int))∈(iA l k).1:=by rw[jL];exact List.mem_append_left _ (by simpa [FT] using h)
  rcases KP l k with h1|⟨d,q,r,he,h1,_,_⟩
  ·exact absurd hc (h1 _ hm)
  ·rw[he] at hm;rcases bj.1 hm with hm|hm
   ·simp only[dy] at hm;exact⟨by omega,d,q,r,by rw[he,hm.2]⟩
   ·exact absurd hc (h1 _ hm)
theorem rh (F:Nat→fK) (fr:Int) (n:Nat):∀(m k:Nat) (q:fP),q.op=true →
    (jT F fr n m k q).fr=q.fr∧(jT F fr n m k q).up=q.up ∧
    (((jT F fr n m k q).op=true∧(jT F fr n m k q).to=q.to∧(∀j,k≤j→j<k+m→fr∈fu (F j)))∨((jT F fr n m k q).op=false∧∃e:Nat,k≤e∧e<k+m∧(jT F fr n m k q).to=e∧fr∉fu (F e)∧∀j,k≤j→j<e→fr∈fu (F j))) ∧
    (((jT F fr n m k q).mode=q.mode∧(fr∉fu (F k)∨m=0))∨∃e,k≤e∧e<k+m∧fr∈fu (F e)∧(jT F fr n m k q).mode=zv ((F e).getD (n-1) (0,0)).1)
  | 0,k,q,ho=>⟨rfl,rfl,.inl ⟨ho,rfl,fun j _ _=>by omega⟩,.inl ⟨rfl,.inr rfl⟩⟩
  | m+1,k,q,ho=>by
    unfold jT;by_cases hm:fr∈fu (F k)
    ·rw[aC (fun h=>mG.1 h hm)];obtain⟨h1,h2,h3,h4⟩:=rh F fr n m (k+1) {q with mode:=zv ((F k).getD (n-1) (0,0)).1} ho;refine⟨h1,h2,?_,.inr ?_⟩
     ·rcases h3 with ⟨h3,h5,h6⟩|⟨h3,e,h5,h6,h7,h8,h9⟩
      ·refine .inl ⟨h3,h5,fun j hj hj2=>?_⟩;by_cases e:j=k
       ·subst e;exact hm
       ·exact h6 j (by omega) (by omega)
      ·refine .inr ⟨h3,e,by omega,by omega,h7,h8,fun j hj hj2=>?_⟩;by_cases e:j=k
       ·subst e;exact hm
       ·exact h9 j (by omega) (by omega)
     ·rcases h4 with ⟨h4,_⟩|⟨e,h5,h6,h7,h8⟩
      ·exact⟨k,au _,by omega,hm,h4⟩
      ·exact⟨e,by omega,by omega,h7,h8⟩
    ·rw[aB (mG.2 hm)];exact⟨rfl,rfl,.inr ⟨rfl,k,au _,by omega,rfl,hm,fun j _ _=>by omega⟩,.inl ⟨rfl,.inl hm⟩⟩
structure PI (l:List UInt8) (q:fP) (f:Nat):Prop where
  fr:q.fr=f
  lt:f<l.length
  al:jZ l f (f+1)
  up:q.up=DC (FT l (f+1)) (eZ l f)
  kind:(q.mode≠12∧((q.op=true∧q.to=l.length∧∀j,f<j→j≤l.length→jZ l f j)∨(q.op=false∧∃e:Nat,f+1<e∧e≤l.length∧q.to=e∧¬jZ l f e∧∀j,f<j→j<e→jZ l f j))∧∀c:UInt8,(c,(f:Int))∈FT l (f+1)→c.toNat=76→jZ l f (f+2)) ∨
    (q.mode=12∧q.op=false∧q.to=f+1+(rj l (f+1):Int)∧(∃d p r,(iA l (f+1)).1=(76,(f:Int))::(d,p)::r)∧(f+2≤l.length→¬jZ l f (f+2)))
theorem Nv (hf:f<l.length) (hq:q∈mR (FT l (f+1)) f (eZ l f)):PI l (nR l (l7 l (l.length-(f+1)) (f+2) q)) f:=by
  have hal:jZ l f (f+1):=by
    refine Classical.byContradiction fun h=>?_
    rw[oC (fun p hp e=>h (by unfold jZ;rw[←e];exact hp))] at hq
    cases hq
  obtain⟨A,c,hF,hs⟩:=Fy hal;rw[oB hF] at hq;simp only[dw] at hq;have h0:(fu (FT l (f+1)))[A.length]? = some (f:Int):=by rw[hF];simp[fu]
  have hop:q.op=true:=by rw[hq]
  have hfr:q.fr=f:=by rw[hq]
  have hup:q.up=DC (FT l (f+1)) (eZ l f):=by rw[hq]
  have hmd:q.mode=zv c:=by rw[hq]
  have hse:=om l f (A.length+1) (fun k hk hm=>mw l f A.length h0 k hk hm) (l.length-(f+1)) (f+2) q hop hfr (by omega);obtain⟨s1,s2,s3,s4⟩:=rh (FT l) f (A.length+1) (l.length-(f+1)) (f+2) {q with to:=l.length} hop;unfold nR;rw[←hse];generalize jT (FT l) f (A.length+1) (l.length-(f+1)) (f+2) {q with to:=l.length}=r at *;have r1:r.fr=f:=s1.trans hfr;have r2:r.up=DC (FT l (f+1)) (eZ l f):=s2.trans hup;by_cases hm:r.mode=12
  ·have e:sC l r={r with to:=r.fr+1+(rj l (r.fr+1).toNat:Int),op:=false}:=by unfold sC;rw[aB hm]
   rw[e];have hx:zv c=12∧((f:Int)∉fu (FT l (f+2))∨l.length-(f+1)=0):=by
     rcases s4 with ⟨s4,s5⟩|⟨e,h1,h2,h3,h4⟩
     ·rw[hm] at s4;exact⟨by rw[←hmd];exact s4.symm,s5⟩
     ·exfalso;rw[hm] at h4;have hc:=(AM _).1 h4.symm;have h5:=mw l f A.length h0 e (by omega) h3;rw[Nat.add_sub_cancel] at hc;rw[aV] at h5
      cases hy:(FT l e)[A.length]? with
      | none=>rw[hy] at h5;cases h5
      | some y=>
        rw[hy] at h5;obtain⟨c',p'⟩:=y;simp at h5;subst h5;rw[aF,hy] at hc
        have:=(Ce (aI hy) hc).1
        omega
   have hc:=(AM c).1 hx.1;refine⟨r1,hf,hal,r2,.inr ⟨hm,rfl,?_,(Ce (c:=c) (by rw[hF];simp) hc).2,?_⟩⟩
   ·show r.fr+1+(rj l (r.fr+1).toNat:Int)=_;rw[r1];rfl
   ·intro h2;rcases hx.2 with h|h
    ·exact h
    ·omega
  ·have e:sC l r=r:=by unfold sC;rw[aC hm]
   rw[e];refine⟨r1,hf,hal,r2,.inl ⟨hm,?_,?_⟩⟩
   rotate_left
   ·intro c' hc' h76;rcases s4 with ⟨s4,s5⟩|⟨e,h1,h2,h3,h4⟩
    ·exfalso;obtain⟨i,hi⟩:=List.mem_iff_getElem?.1 hc';have hi2:(fu (FT l (f+1)))[i]? = some (f:Int):=by rw[aV,hi];rfl
     have:=rB (qO l (f+1)) hi2 h0
     subst this;rw[hF] at hi;simp at hi;subst hi;exact hm (by rw[s4];show q.mode=12;rw[hmd];exact(AM _).2 h76)
    ·exact AU h3 (f+2) (by omega) (by omega)
   rcases s3 with ⟨h1,h2,h3⟩|⟨h1,e,h2,h3,h4,h5,h6⟩
   ·refine .inl ⟨h1,h2,fun j hj hj2=>?_⟩;by_cases e:j=f+1
    ·subst e;exact hal
    ·exact h3 j (by omega) (by omega)
   ·refine .inr ⟨h1,e,by omega,by omega,h4,h5,fun j hj hj2=>?_⟩;by_cases e:j=f+1
    ·subst e;exact hal
    ·exact h6 j (by omega) (by omega)
theorem Ac (l:List UInt8):eQ l=(List.range l.length).flatMap (fun f=>(mR (FT l (f+1)) f (eZ l f)).map fun q=>nR l (l7 l (l.length-(f+1)) (f+2) q)):=by
  rw[←Af];exact(pa l l.length (au _)).1
theorem C6 (l:List UInt8):iE (eQ l)=iE (eZ l l.length):=by
  unfold eQ;simp only[iE,dA];exact cw fun q _=>B8 l q
theorem Aa (l:List UInt8):(iE (eQ l)).Pairwise (· < ·):=by rw[C6];exact(mE l l.length).rise
theorem Nu (hq:PI l q f):(f:Int)<q.to∧q.to≤(l.length:Int):=by
  have hfl:=hq.lt;rcases hq.kind with ⟨_,h,_⟩|⟨_,_,h,_,_⟩
  ·rcases h with ⟨_,h,_⟩|⟨_,e,h1,h2,h3,_⟩
   ·rw[h];omega
   ·rw[h3];omega
  ·have:=BH l (f+1)
   rw[h];omega
theorem IT (hr:(iE L).Pairwise (· < ·)) {p:fP} (hi:L[i]? = some p) (hk:L[k]? = some q):k<i↔q.fr<p.fr:=by
  obtain⟨h1,h2⟩:=az.1 hi;obtain⟨h3,h4⟩:=az.1 hk;have hp:=dr.1 hr;have g1:(iE L)[i]'(by simpa using h1)=p.fr:=by simp[iE,h2]
  have g3:(iE L)[k]'(by simpa using h3)=q.fr:=by simp[iE,h4]
  constructor
  ·intro h
   have:=hp k i (by simpa using h3) (by simpa using h1) h
   rwa [g1,g3] at this
  ·intro h;refine Nat.lt_of_not_le fun hh=>?_
   rcases Nat.lt_or_eq_of_le hh with h5|h5
   ·have:=hp i k (by simpa using h1) (by simpa using h3) h5
    rw[g1,g3] at this;omega
   ·subst h5;rw[hi] at hk;injection hk with hk
    subst hk;omega
theorem getD_some (h:L[k]? = some q):L.getD k dP=q:=by rw[aF,h];rfl
theorem MD:zv c=13↔c.toNat=88:=by
  have:=gh (fun c=>decide (zv c=13)==decide (c.toNat=88)) (by decide +kernel) c
  simpa using this
def PX (st:fK) (a:Int) (x:fK×Bool):Prop:=∀y∈x.1,y.1=88→y∈st∨y.2=a
theorem PX.same {f:Bool}:PX st a (st,f):=fun y hy _=>.inl hy
theorem PX.tail {f:Bool}:PX st a (st.tail,f):=fun y hy _=>.inl (List.mem_of_mem_tail hy)
theorem PX.push {f:Bool} {c:UInt8}:PX st a ((c,a)::st,f):=fun y hy _=>by
  rcases bj.1 hy with rfl|hy
  ·exact .inr rfl
  ·exact .inl hy
theorem PX.turn {p:Int} {f:Bool} {c:UInt8} (hc:c≠88):PX ((d,p)::r) a ((c,p)::r,f):=fun y hy h=>by
  rcases bj.1 hy with rfl|hy
  ·exact absurd h hc
  ·exact .inl (cj _ hy)
theorem PX.deep {y:UInt8×Int} {x:fK×Bool} (h:PX r a x):PX (y::r) a x:=fun z hz e=>by
  rcases h z hz e with h1|h1
  ·exact .inl (cj _ h1)
  ·exact .inr h1
theorem PX.other {p:Int} {c:UInt8} {x:fK×Bool} (hc:c≠88) (h:PX ((c,p)::r) a x):PX ((d,p)::r) a x:=fun z hz e=>by
  rcases h z hz e with h1|h1
  ·rcases bj.1 h1 with rfl|h1
   ·exact absurd e hc
   ·exact .inl (cj _ h1)
  ·exact .inr h1
theorem ot (st:fK) (f:Bool) (c b:UInt8) (a:Int):PX st a (dZ st f c b a):=by
  unfold dZ
  repeat' (refine eF (PX st a) (fun _=>?_) (fun _=>?_))
  all_goals first
    | exact rProgram_px _ _ _ _ _
    | exact PX.push
    | exact PX.tail
    | exact PX.same
    | (cases st with
       | nil=>exact PX.same
       | cons y r=>exact PX.turn (by decide))
theorem Ey (st:fK) (f:Bool) (b:UInt8) (a:Int):PX st a (f9 st f b a):=by
  match st with
  | []=>exact PX.same
  | (c,p)::r=>
    unfold f9;refine eF (PX ((c,p)::r) a) (fun _=>?_) (fun _=>?_)
    ·refine eF (PX ((c,p)::r) a) (fun _=>PX.turn (by decide)) (fun _=>?_);refine eF (PX ((c,p)::r) a) (fun _=>?_) (fun _=>?_)
     ·cases r with
      | nil=>exact PX.turn (by decide)
      | cons y r=>exact eF (PX ((c,p)::y::r) a) (fun _=>PX.turn (by decide)) (fun _=>PX.turn (by decide))
     ·refine eF (PX ((c,p)::r) a) (fun _=>PX.same.deep) (fun _=>?_)
      cases r with
      | nil=>exact PX.same.deep
      | cons y r=>exact(ot _ _ _ _ _).deep
    ·refine eF (PX ((c,p)::r) a) (fun _=>?_) (fun _=>?_)
     ·exact eF (PX ((c,p)::r) a) (fun _=>PX.turn (by decide)) (fun _=>(ot _ _ _ _ _).other (by decide))
     ·refine eF (PX ((c,p)::r) a) (fun _=>?_) (fun _=>ot _ _ _ _ _);exact eF (PX ((c,p)::r) a) (fun _=>PX.same.deep) (fun _=>(ot _ _ _ _ _).other (by decide))
theorem Dd {c:UInt8} (hk:f+2≤k) (h:(c,(f:Int))∈FT l k):c.toNat≠88:=by
  intro hc;obtain rfl:c=88:=dE.1 hc;obtain⟨k,rfl⟩:∃k',k=k'+1:=⟨k-1,by omega⟩;have hm:((88:UInt8),(f:Int))∈(iA l (k+1)).1:=by rw[jL];exact List.mem_append_left _ (by simpa [FT] using h)
  have hs:(iA l (k+1)).1=(f9 (iA l k).1 (iA l k).2 (l.getD k 0) k).1:=rfl;rcases Ey (iA l k).1 (iA l k).2 (l.getD k 0) k _ (by rw[←hs];exact hm) rfl with h1|h1
  ·have hv:=uO l k;have hx:=jL l k;have hnd:(fu (XT l k)).Nodup:=by rw[dm];exact(wX l k).1.imp (fun h=>by omega)
   cases hst:(iA l k).1 with
   | nil=>rw[hst] at h1;cases h1
   | cons y r=>
     obtain⟨d,p⟩:=y;rw[hst] at h1 hv;rcases bj.1 h1 with h2|h2
     ·simp only[dy] at h2;obtain⟨rfl,rfl⟩:=h2;have e:(f9 (iA l k).1 (iA l k).2 (l.getD k 0) k).1=r:=by rw[hst];unfold f9 dZ;simp
      rw[hs,e] at hm;have hX:((88:UInt8),(f:Int))∈XT l k:=by
        have:((88:UInt8),(f:Int))∈(iA l k).1:=by rw[hst];exact db
        rw[hx] at this;rcases bM.1 this with h3|h3
        ·exact h3
        ·simp at h3
      cases hXT:XT l k with
      | nil=>rw[hXT] at hX;cases hX
      | cons z Z=>
        rw[hXT] at hx hnd;rw[hst,bH] at hx;injection hx with hz hr
        subst hz;rw[hr] at hm;simp only[fu,cF,List.nodup_cons] at hnd;rcases bM.1 hm with h3|h3
        ·exact hnd.1 (bZ.2 ⟨_,h3,rfl⟩)
        ·simp at h3
     ·have:=hv.2 _ h2
      exact absurd (show AY 88=true from this) (by decide)
  ·simp at h1;omega
theorem x9 (h:q∈eQ l):∃f t:Nat,q.fr=f∧q.to=t∧f<t∧t≤l.length∧(q.mode≠12→q.op=false→f+2≤t)∧(q.op=true→t=l.length)∧(q.mode=13→t≤f+2):=by
  have h0:=h;rw[Ac] at h;obtain⟨f,hf,hq⟩:=dL.1 h;have hf:=cI.1 hf;obtain⟨q0,hq0,rfl⟩:=bZ.1 hq;have hp:=Nv hf hq0;have hto:=Nu hp;obtain⟨t,ht⟩:∃t:Nat,(nR l (l7 l (l.length-(f+1)) (f+2) q0)).to=t:=⟨_,(Int.toNat_of_nonneg (by omega)).symm⟩;refine⟨f,t,hp.fr,ht,by omega,by omega,?_,?_,?_⟩
  ·intro h12 hop;rcases hp.kind with ⟨_,h1|⟨_,e,h2,h3,h4,_⟩,_⟩|h1
   ·rw[h1.1] at hop;cases hop
   ·omega
   ·exact absurd h1.1 h12
  ·intro hop;rcases hp.kind with ⟨_,h1|⟨h2,_⟩,_⟩|h1
   ·have:=h1.2.1;omega
   ·rw[hop] at h2;cases h2
   ·rw[h1.2.1] at hop;cases hop
  ·intro h13;have hgone:¬jZ l f (f+2)∨l.length≤f+1:=by
     have hal:=hp.al;obtain⟨A,c,hF,hs⟩:=Fy hal;rw[oB hF] at hq0;simp only[dw] at hq0;have i0:(fu (FT l (f+1)))[A.length]? = some (f:Int):=by rw[hF];simp[fu]
     have hop:q0.op=true:=by rw[hq0]
     have hfr:q0.fr=f:=by rw[hq0]
     have hse:=om l f (A.length+1) (fun k hk hm=>mw l f A.length i0 k hk hm) (l.length-(f+1)) (f+2) q0 hop hfr (by omega);obtain⟨s1,s2,s3,s4⟩:=rh (FT l) f (A.length+1) (l.length-(f+1)) (f+2) {q0 with to:=l.length} hop;rw[show nR l (l7 l (l.length-(f+1)) (f+2) q0)=sC l (lk l.length (l7 l (l.length-(f+1)) (f+2) q0)) from rfl,←hse] at h13;generalize jT (FT l) f (A.length+1) (l.length-(f+1)) (f+2) {q0 with to:=l.length}=r at *;have hr:r.mode=13:=by
       unfold sC at h13;by_cases h12:r.mode=12
       ·rw[aB h12] at h13
        have:r.mode=13:=h13
        omega
       ·rw[aC h12] at h13;exact h13
     rcases s4 with ⟨_,h5|h5⟩|⟨e,h1,h2,h3,h4⟩
     ·exact .inl h5
     ·exact .inr (by omega)
     ·exfalso;rw[hr] at h4;have hc:=(MD _).1 h4.symm;have h5:=mw l f A.length i0 e (by omega) h3;rw[Nat.add_sub_cancel] at hc;rw[aV] at h5
      cases hy:(FT l e)[A.length]? with
      | none=>rw[hy] at h5;cases h5
      | some y=>
        rw[hy] at h5;simp at h5;rw[aF,hy] at hc;exact Dd (c:=y.1) h1 (by rw[←h5];exact aI hy) hc
   rcases hp.kind with ⟨_,⟨h1,h2,h3⟩|⟨_,e,h2,h3,h4,_,h6⟩,_⟩|h1
   ·rcases hgone with hg|hg
    ·have:¬(f+2≤l.length):=fun hh=>hg (h3 (f+2) (by omega) hh)
     omega
    ·omega
   ·rcases hgone with hg|hg
    ·have:¬(f+2<e):=fun hh=>hg (h6 (f+2) (by omega) hh)
     omega
    ·omega
   ·rw[h1.1] at h13;cases h13
structure Pc where
  ex:Bool
  qu:Bool
  tx:List UInt8
def sub (l:List UInt8) (a b:Nat):List UInt8:=(l.take b).drop a
def jX (L:List fP) (x:Nat):Option fP:=L.find? (fun q=>q.fr==(x:Int))
def fF (q:fP):Nat:=q.to.toNat
def tG (q:fP) (x:Nat):Bool:=decide (q.mode=12∧fF q=x+1)
def rJ (q:fP):Nat:=if q.op=true then fF q else fF q-1
def J3 (c:UInt8):Bool:=c.toNat==36||c.toNat==96||c.toNat==34||c.toNat==92
def oT (l:List UInt8) (q:fP) (x:Nat):List UInt8:=
  if fF q<x+2 then [] else if J3 (l.getD (x+1) 0)=true then [l.getD (x+1) 0] else if (l.getD (x+1) 0).toNat=10 then [] else sub l x (fF q)
def tW (b:List UInt8):List Pc:=if b=[] then [] else [⟨false,false,b⟩]
def Da (b:List UInt8):List Pc:=if b=[] then [] else [⟨false,true,b⟩]
def lp (l:List UInt8) (L:List fP) (e:Nat):Nat→Nat→List UInt8→Bool→List Pc
  | 0,_,_,_=>[]
  | m+1,x,here,ex=>
    if x<e then
      match jX L x with
      | none=>lp l L e m (x+1) (here++[l.getD x 0]) ex
      | some q=>
        if tG q x=true then lp l L e m (x+1) (here++[l.getD x 0]) ex
        else if q.mode=13 then lp l L e m (fF q) (here++oT l q x) ex
        else Da here++⟨true,true,sub l x (fF q)⟩::lp l L e m (fF q) [] true
    else if here=[]∧ex=true then [] else [⟨false,true,here⟩]
def i6 (l:List UInt8) (L:List fP):Nat→Nat→List UInt8→List Pc
  | 0,_,buf=>tW buf
  | m+1,x,buf=>
    if x<l.length then
      match jX L x with
      | none=>i6 l L m (x+1) (buf++[l.getD x 0])
      | some q=>
        if tG q x=true∨q.mode=14 then i6 l L m (fF q) (buf++sub l x (fF q))
        else if q.mode=13 then
          (if sub l (x+1) (fF q)=[]∨sub l (x+1) (fF q)=[10] then i6 l L m (fF q) buf
           else tW buf++⟨false,true,sub l (x+1) (fF q)⟩::i6 l L m (fF q) [])
        else if q.mode=4 then tW buf++⟨false,true,sub l (x+1) (rJ q)⟩::i6 l L m (fF q) []
        else if q.mode=5 then tW buf++(lp l L (rJ q) (l.length+1) (x+1) [] false++i6 l L m (fF q) [])
        else tW buf++⟨true,false,sub l x (fF q)⟩::i6 l L m (fF q) []
    else tW buf
def o9 (l:List UInt8):List Pc:=i6 l (eQ l) (l.length+1) 0 []
theorem vK {a b:Nat} (h:b≤l.length):(sub l a b).length=b-a:=by unfold sub;simp;omega
structure PL (l:List UInt8) (L:List fP):Prop where
  two:∀q∈L,∃f t:Nat,q.fr=f∧q.to=t∧f<t∧t≤l.length∧(q.mode≠12→q.op=false→f+2≤t)∧(q.op=true→t=l.length)∧(q.mode=13→t≤f+2)
theorem nF (l:List UInt8):PL l (eQ l):=⟨fun q h=>x9 h⟩
theorem jq (hL:PL l L) (h:jX L x=some q):q∈L∧q.fr=x∧q.to=fF q∧x<fF q∧fF q≤l.length∧(q.mode≠12→q.op=false→x+2≤fF q)∧(q.op=true→fF q=l.length)∧(q.mode=13→fF q≤x+2):=by
  have h1:=List.mem_of_find?_eq_some h;have h2:q.fr=x:=by have:=List.find?_some h;simpa using this
  obtain⟨f,t,a,b,c,d,e,g,i⟩:=hL.two q h1;have e1:fF q=t:=by unfold fF;omega
  have e2:f=x:=by omega
  subst e2;rw[e1];exact⟨h1,h2,b,c,d,e,g,i⟩
def vG (L:List Pc):List UInt8:=L.flatMap (·.tx)
theorem xi (L:List Pc) (x:Pc):vG (L++[x])=vG L++x.tx:=by simp[vG]
theorem vF:∀(L:List Pc) (N:Nat),(∀x∈L,x.tx.length≤N)→(vG L).length≤L.length*N
  | [],_,_=>by simp[vG]
  | x::r,N,h=>by
    have h1:=vF r N (fun y hy=>h y (cj _ hy));have h2:=h x db;have e:(vG (x::r)).length=x.tx.length+(vG r).length:=by simp[vG]
    rw[e,aL,Nat.succ_mul];omega
def sB (b:List UInt8):Nat:=if b=[] then 0 else 1
theorem qh:sB b≤1:=by unfold sB;split<;>omega
theorem oK:(tW b).length=sB b:=by unfold tW sB;split<;>rfl
theorem JU:(Da b).length=sB b:=by unfold Da sB;split<;>rfl
theorem qE {l:List UInt8} {L:List fP} (hL:PL l L) (e:Nat):∀(m x:Nat) (here:List UInt8) (ex:Bool),(lp l L e m x here ex).length≤2*(e-x)+1+sB here
  | 0,_,_,_=>by simp[lp]
  | m+1,x,here,ex=>by
    unfold lp;by_cases hx:x<e
    ·rw[aB hx]
     cases hf:jX L x with
     | none=>
       have h1:=qE hL e m (x+1) (here++[l.getD x 0]) ex;have h2:=qh (here++[l.getD x 0]);simp only;omega
     | some q=>
       obtain⟨_,hfr,hto,hlt,hle,_⟩:=jq hL hf;simp only;split
       ·have h1:=qE hL e m (x+1) (here++[l.getD x 0]) ex;have h2:=qh (here++[l.getD x 0]);omega
       ·split
        ·have h1:=qE hL e m (fF q) (here++oT l q x) ex;have h2:=qh (here++oT l q x);omega
        ·have h1:=qE hL e m (fF q) [] true;rw[aD,aL,JU];simp only[sB,bP] at h1 ⊢;omega
    ·rw[aC hx];split
     ·simp
     ·simp only[aL,cg];omega
theorem nG {l:List UInt8} {L:List fP} (hL:PL l L):∀(m x:Nat) (buf:List UInt8),(i6 l L m x buf).length≤2*(l.length-x)+sB buf
  | 0,_,buf=>by simp[i6,oK]
  | m+1,x,buf=>by
    unfold i6;by_cases hx:x<l.length
    ·rw[aB hx];have hn:∀y,(i6 l L m y []).length≤2*(l.length-y):=fun y=>by have:=nG hL m y [];simpa [sB] using this
     cases hf:jX L x with
     | none=>
       have h1:=nG hL m (x+1) (buf++[l.getD x 0]);have h2:=qh (buf++[l.getD x 0]);simp only;omega
     | some q=>
       obtain⟨_,hfr,hto,hlt,hle,h2,_⟩:=jq hL hf;have h3:=hn (fF q);simp only;split
       ·have h1:=nG hL m (fF q) (buf++sub l x (fF q));have h2:=qh (buf++sub l x (fF q));omega
       ·split
        ·split
         ·have h1:=nG hL m (fF q) buf;omega
         ·rw[aD,aL,oK];omega
        ·split
         ·rw[aD,aL,oK];omega
         ·split
          ·rename_i h5;have h4:=qE hL (rJ q) (l.length+1) (x+1) [] false;have h6:rJ q≤fF q:=by unfold rJ;split<;>omega
           simp only[sB,bP] at h4;rw[aD,aD,oK];omega
          ·rw[aD,aL,oK];omega
    ·rw[aC hx,oK];omega
theorem x8 (l:List UInt8):(o9 l).length≤2*l.length:=by
  have:=nG (nF l) (l.length+1) 0 []
  simpa [sB,o9] using this
theorem qW (l:List UInt8) (a b:Nat):(sub l a b).length≤b-a:=by unfold sub;simp;omega
theorem J2 (h:x<fF q) (h2:fF q≤x+2∨True):(oT l q x).length≤fF q-x:=by
  unfold oT;split
  ·simp
  ·split
   ·simp;omega
   ·split
    ·simp
    ·exact qW _ _ _
theorem wM {b:List UInt8} (h:b.length≤N):∀p∈tW b,p.tx.length≤N:=by
  intro p hp;unfold tW at hp;split at hp
  ·cases hp
  ·simp at hp;subst hp;exact h
theorem Mp {b:List UInt8} (h:b.length≤N):∀p∈Da b,p.tx.length≤N:=by
  intro p hp;unfold Da at hp;split at hp
  ·cases hp
  ·simp at hp;subst hp;exact h
theorem uc {l:List UInt8} {L:List fP} (hL:PL l L) (e:Nat) (he:e≤l.length):∀(m x:Nat) (here:List UInt8) (ex:Bool),here.length≤x→x≤l.length→∀p∈lp l L e m x here ex,p.tx.length≤l.length
  | 0,_,_,_,_,_=>by intro p hp;cases hp
  | m+1,x,here,ex,hh,hxl=>by
    unfold lp;by_cases hx:x<e
    ·rw[aB hx]
     cases hf:jX L x with
     | none=>exact uc hL e he m (x+1) _ ex (by simp;omega) (by omega)
     | some q=>
       obtain⟨_,hfr,hto,hlt,hle,_⟩:=jq hL hf;simp only;split
       ·exact uc hL e he m (x+1) _ ex (by simp;omega) (by omega)
       ·split
        ·exact uc hL e he m (fF q) _ ex (by have:=J2 (l:=l) hlt (.inr trivial);simp;omega) hle
        ·intro p hp;rcases bM.1 hp with hp|hp
         ·exact Mp (by omega) p hp
         ·rcases bj.1 hp with rfl|hp
          ·have:=qW l x (fF q);simp only;omega
          ·exact uc hL e he m (fF q) [] true (by simp) hle p hp
    ·rw[aC hx];split
     ·intro p hp;cases hp
     ·intro p hp;simp at hp;subst hp;simp only;omega
theorem pV {l:List UInt8} {L:List fP} (hL:PL l L):∀(m x:Nat) (buf:List UInt8),buf.length≤x→x≤l.length→∀p∈i6 l L m x buf,p.tx.length≤l.length
  | 0,_,buf,h,hx=>wM (by omega)
  | m+1,x,buf,h,hxl=>by
    unfold i6;by_cases hx:x<l.length
    ·rw[aB hx]
     cases hf:jX L x with
     | none=>exact pV hL m (x+1) _ (by simp;omega) (by omega)
     | some q=>
       obtain⟨_,hfr,hto,hlt,hle,h2,_⟩:=jq hL hf;have hn:=pV hL m (fF q) [] (by simp) hle;have hone:∀(y:Pc),y.tx.length≤l.length→∀p∈tW buf++y::i6 l L m (fF q) [],p.tx.length≤l.length:=by
         intro y hy p hp;rcases bM.1 hp with hp|hp
         ·exact wM (by omega) p hp
         ·rcases bj.1 hp with rfl|hp
          ·exact hy
          ·exact hn p hp
       have hend:rJ q≤fF q:=by unfold rJ;split<;>omega
       simp only;split
       ·exact pV hL m (fF q) _ (by have:=qW l x (fF q);simp;omega) hle
       ·split
        ·split
         ·exact pV hL m (fF q) buf (by omega) hle
         ·exact hone _ (by have:=qW l (x+1) (fF q);simp only;omega)
        ·split
         ·exact hone _ (by have:=qW l (x+1) (rJ q);simp only;omega)
         ·split
          ·intro p hp;rcases bM.1 hp with hp|hp
           ·exact wM (by omega) p hp
           ·rcases bM.1 hp with hp|hp
            ·exact uc hL (rJ q) (by omega) _ (x+1) [] false (by simp) (by omega) p hp
            ·exact hn p hp
          ·exact hone _ (by have:=qW l x (fF q);simp only;omega)
    ·rw[aC hx];exact wM (by omega)
theorem wh (l:List UInt8):∀p∈o9 l,p.tx.length≤l.length:=pV (nF l) (l.length+1) 0 [] (by simp) (by omega)
def jd:Nat→List UInt8
  | 1=>[38,38]|2=>[124,124]|3=>[59,59]|4=>[60,60]|5=>[60,60,45]|6=>[62,62]|7=>[60,38]|8=>[62,38]|9=>[60,62]
  | 10=>[62,124]|11=>[60]|12=>[62]|13=>[38]|14=>[59]|15=>[124]|16=>[40]|17=>[41]|_=>[]
def iG (w:List UInt8):Nat→Nat→Nat
  | 0,_=>0
  | m+1,k=>if jd k=w then k else iG w m (k+1)
def iR (w:List UInt8):Nat:=if w=[] then 0 else iG w 17 1
def ut (d:List UInt8):Nat→Nat×Nat
  | 0=>(0,0)
  | n+1=>if iR (d.take (n+1))≠0 then (iR (d.take (n+1)),n+1) else ut d n
def jB (l:List UInt8) (x:Nat):Nat×Nat:=if fI (l.getD x 0)≠3 then (0,0) else ut (l.drop x) (min 3 (l.length-x))
def lc (d:List UInt8):Nat→Nat
  | 0=>0
  | k+1=>if (jd (k+1)).isPrefixOf d=true∧(jd (lc d k)).length<(jd (k+1)).length then k+1 else lc d k
def um:List UInt8:=[38,124,59,60,62,45,40,41]
def yl (c:UInt8):UInt8:=if um.contains c then c else 0
theorem pj:∀k,∀c∈jd k,c∈um:=by
  intro k;by_cases h:k<18
  ·have:((List.range 18).all fun k=>(jd k).all fun c=>um.contains c)=true:=by decide +kernel
   have h2:=bV.1 this k (cI.2 h);intro c hc
   have:=bV.1 h2 c hc
   simpa using this
  ·intro c hc
   have:jd k=[]:=by unfold jd;split<;>first|omega|rfl
   rw[this] at hc
   cases hc
theorem Fu {c:UInt8} (h:c∈um):c=yl d↔c=d:=by
  unfold yl;constructor
  ·intro e;split at e
   ·exact e
   ·subst e;exact absurd h (by decide)
  ·intro e;subst e;rw[aB (by simpa using h)]
theorem wD:∀(t w:List UInt8),(∀c∈t,c∈um)→(t=w.map yl↔t=w)
  | [],[],_=>by simp
  | [],_::_,_=>by simp
  | _::_,[],_=>by simp
  | a::t,b::w,h=>by
    have h1:=wD t w (fun c hc=>h c (cj _ hc));have h2:=Fu (d:=b) (h a db);simp only[cF,dS,h1,h2]
theorem BD:∀(t w:List UInt8),(∀c∈t,c∈um)→t.isPrefixOf (w.map yl)=t.isPrefixOf w
  | [],_,_=>by simp
  | _::_,[],_=>rfl
  | a::t,b::w,h=>by
    have h1:=BD t w (fun c hc=>h c (cj _ hc));have h2:=Fu (d:=b) (h a db);simp only[cF,List.isPrefixOf,h1];congr 1;by_cases e:a=b
    ·subst e;simp[h2]
    ·have:¬a=yl b:=fun h=>e (h2.1 h)
     rw[aK.2 e,aK.2 this]
theorem tB (w:List UInt8):∀m k,iG (w.map yl) m k=iG w m k
  | 0,_=>rfl
  | m+1,k=>by
    unfold iG;rw[tB w m];by_cases e:jd k=w
    ·rw[aB e,aB ((wD _ _ (pj k)).2 e)]
    ·rw[aC e,aC (fun h=>e ((wD _ _ (pj k)).1 h))]
theorem Fh:iR (w.map yl)=iR w:=by
  unfold iR;rw[tB];by_cases e:w=[]
  ·subst e;rfl
  ·rw[aC e,aC (by simpa using e)]
theorem BO (d:List UInt8):∀n,ut (d.map yl) n=ut d n
  | 0=>rfl
  | n+1=>by
    unfold ut;rw[←List.map_take,Fh,BO d n]
theorem tC (d:List UInt8):∀k,lc (d.map yl) k=lc d k
  | 0=>rfl
  | k+1=>by
    unfold lc;rw[tC d k,BD _ _ (pj _)]
theorem Ff (k:Nat):(jd k).length≤3:=by
  unfold jd;split<;>simp
theorem EL (t w:List UInt8) (n:Nat) (h:t.length≤n):t.isPrefixOf (w.take n)=t.isPrefixOf w:=by
  induction t generalizing w n with
  | nil=>simp
  | cons a t ih=>
    cases w with
    | nil=>simp
    | cons b w=>
      cases n with
      | zero=>simp at h
      | succ n=>simp only[cP,List.isPrefixOf];rw[ih w n (by simpa using h)]
theorem sd (d:List UInt8):∀k,lc (d.take 3) k=lc d k
  | 0=>rfl
  | k+1=>by
    unfold lc;rw[sd d k,EL _ _ _ (Ff _)]
theorem qa (d:List UInt8) (m:Nat):∀n,n≤m→ut (d.take m) n=ut d n
  | 0,_=>rfl
  | n+1,h=>by
    unfold ut;rw[qa d m n (by omega),List.take_take,cU h]
def lW (d:List UInt8):Bool:=(lc d 17==(ut d (min 3 d.length)).1)&&((jd (ut d (min 3 d.length)).1).length==(ut d (min 3 d.length)).2)&&(fI (d.getD 0 0)==3||lc d 17==0)&&(fI (d.getD 0 0)!=3||(ut d (min 3 d.length)).2 != 0)
def pJ:List UInt8:=0::um
theorem Aj:(pJ.all fun a=>lW [a])=true:=by decide +kernel
theorem Ai:(pJ.all fun a=>pJ.all fun b=>lW [a,b])=true:=by decide +kernel
theorem wu:(pJ.all fun a=>pJ.all fun b=>pJ.all fun c=>lW [a,b,c])=true:=by decide +kernel
theorem oy:yl c∈pJ:=by
  unfold yl;split
  ·rename_i h;exact cj _ (by simpa using h)
  ·exact db
theorem Ch:(fI (yl c)==3)=(fI c==3):=by
  have:=gh (fun c=>(fI (yl c)==3)==(fI c==3)) (by decide +kernel) c
  simpa using this
theorem Ak (d:List UInt8) (hd:d≠[]) (h:lW (d.map yl)=true):lW d=true:=by
  unfold lW at h ⊢;have e:(d.map yl).getD 0 0=yl (d.getD 0 0):=by
    cases d with
    | nil=>exact absurd rfl hd
    | cons a r=>rfl
  rw[tC,bE,BO,e,Ch] at h;have e2:(fI (yl (d.getD 0 0))!=3)=(fI (d.getD 0 0)!=3):=by unfold bne;rw[Ch]
  rw[e2] at h;exact h
theorem Am (d:List UInt8) (hd:d≠[]):lW d=true:=by
  have hs:lW (d.take 3)=true:=by
    refine Ak _ (by cases d<;>simp_all) ?_
    match d,hd with
    | [a],_=>exact bV.1 Aj _ (oy a)
    | [a,b],_=>exact bV.1 (bV.1 Ai _ (oy a)) _ (oy b)
    | a::b::c::r,_=>exact bV.1 (bV.1 (bV.1 wu _ (oy a)) _ (oy b)) _ (oy c)
  unfold lW at hs ⊢;have e:(d.take 3).getD 0 0=d.getD 0 0:=by cases d<;>rfl
  have e2:min 3 (d.take 3).length=min 3 d.length:=by simp
  rw[sd,e2,qa _ _ _ (by omega),e] at hs;exact hs
theorem Jl (l:List UInt8) (x:Nat) (hx:x<l.length):lc (l.drop x) 17=(jB l x).1∧(jd (jB l x).1).length=(jB l x).2∧(0<(jB l x).2↔fI (l.getD x 0)=3):=by
  have hd:l.drop x≠[]:=by intro h;have:=congrArg List.length h;simp at this;omega
  have h:=Am _ hd;have e:(l.drop x).getD 0 0=l.getD x 0:=by simp[aF]
  unfold lW at h;rw[e,aZ] at h;simp only[aR,bA,dU,bne_iff_ne] at h;obtain⟨⟨⟨h1,h2⟩,h3⟩,h4⟩:=h;unfold jB;by_cases hc:fI (l.getD x 0)=3
  ·rw[aC (fun h=>h hc)];refine⟨h1,h2,fun _=>hc,fun _=>?_⟩;rcases h4 with h4|h4
   ·exact absurd hc h4
   ·omega
  ·rw[aB hc];refine⟨?_,rfl,fun h=>by simp at h,fun h=>absurd h hc⟩;rcases h3 with h3|h3
   ·exact absurd h3 hc
   ·exact h3
def gM (l:List UInt8) (x:Nat):Nat:=x+((l.drop x).takeWhile fun c=>c.toNat != 10).length
def ni (t:Bool) (b:List UInt8):List UInt8:=if t=true then b.dropWhile (fun c=>c.toNat==9) else b
def lineE (l:List UInt8) (x:Nat):Nat:=if gM l x<l.length then gM l x+1 else gM l x
def tN (l w:List UInt8) (t:Bool):Nat→Nat→Nat×Bool
  | 0,x=>(x,false)
  | m+1,x=>if x<l.length then (if ni t (sub l x (gM l x))=w then (lineE l x,true) else tN l w t m (lineE l x)) else (x,false)
def iD (l:List UInt8) (x:Nat) (w:List UInt8) (t:Bool):Nat×Bool:=tN l w t (l.length-x) x
theorem nK (l:List UInt8) (x:Nat) (h:x≤l.length):x≤gM l x∧gM l x≤l.length:=by
  unfold gM
  have:=(List.takeWhile_prefix (l:=l.drop x) (fun c=>c.toNat != 10)).length_le
  simp at this;omega
theorem ml (l:List UInt8) (x:Nat) (h:x<l.length):x<lineE l x∧lineE l x≤l.length:=by
  have h1:=nK l x (by omega);unfold lineE;split
  ·omega
  ·constructor
   ·have:gM l x=l.length:=by omega
    omega
   ·omega
theorem tM (l w:List UInt8) (t:Bool):∀(m m' x:Nat),l.length-x≤m→l.length-x≤m'→tN l w t m x=tN l w t m' x
  | 0,m',x,h,h'=>by
    cases m' with
    | zero=>rfl
    | succ m'=>unfold tN;rw[aC (by omega)]
  | m+1,0,x,h,h'=>by unfold tN;rw[aC (by omega)]
  | m+1,m'+1,x,h,h'=>by
    unfold tN;by_cases hx:x<l.length
    ·have:=ml l x hx
     rw[aB hx,aB hx,tM l w t m m' (lineE l x) (by omega) (by omega)]
    ·rw[aC hx,aC hx]
theorem iY (l:List UInt8) (x:Nat) (w:List UInt8) (t:Bool):iD l x w t=if x<l.length then (if ni t (sub l x (gM l x))=w then (lineE l x,true) else iD l (lineE l x) w t) else (x,false):=by
  unfold iD;by_cases hx:x<l.length
  ·have:=ml l x hx
   obtain⟨m,hm⟩:∃m,l.length-x=m+1:=⟨l.length-x-1,by omega⟩;rw[hm];show (if x<l.length then _ else _)=_;rw[aB hx,aB hx,tM l w t m (l.length-lineE l x) (lineE l x) (by omega) (au _)]
  ·rw[aC hx,show l.length-x=0 by omega];rfl
theorem tL (l w:List UInt8) (t:Bool):∀(m x:Nat),l.length-x=m→x<l.length→x<(iD l x w t).1∧(iD l x w t).1≤l.length∧((iD l x w t).2=false→(iD l x w t).1=l.length):=by
  intro m
  induction m using Nat.strongRecOn with
  | _ m ih=>
    intro x hm hx;rw[iY,aB hx]
    have:=ml l x hx
    by_cases hw:ni t (sub l x (gM l x))=w
    ·rw[aB hw];exact⟨this.1,this.2,fun h=>by cases h⟩
    ·rw[aC hw];by_cases hy:lineE l x<l.length
     ·have h2:=ih (l.length-lineE l x) (by omega) (lineE l x) rfl hy;exact⟨by omega,h2.2.1,h2.2.2⟩
     ·rw[iY,aC hy];exact⟨this.1,this.2,fun _=>by show lineE l x=_;omega⟩
def iJ (c:UInt8):Bool:=c.toNat==32||c.toNat==9
def iq (l:List UInt8) (x:Nat):Bool:=x+1<l.length&&(l.getD x 0).toNat==92&&(l.getD (x+1) 0).toNat==10
def nW (l:List UInt8):Nat→Nat→Nat
  | 0,x=>x
  | m+1,x=>if x<l.length then (if iJ (l.getD x 0)=true then nW l m (x+1) else if iq l x=true then nW l m (x+2) else x) else x
def iz (l:List UInt8) (x:Nat):Nat:=nW l (l.length-x) x
theorem lS (l:List UInt8):∀(m m' x:Nat),l.length-x≤m→l.length-x≤m'→nW l m x=nW l m' x
  | 0,m',x,h,h'=>by
    cases m' with
    | zero=>rfl
    | succ m'=>unfold nW;rw[aC (by omega)]
  | m+1,0,x,h,h'=>by unfold nW;rw[aC (by omega)]
  | m+1,m'+1,x,h,h'=>by
    unfold nW;rw[lS l m m' (x+1) (by omega) (by omega),lS l m m' (x+2) (by omega) (by omega)]
theorem ja (l:List UInt8) (x:Nat):iz l x=if x<l.length then (if iJ (l.getD x 0)=true then iz l (x+1) else if iq l x=true then iz l (x+2) else x) else x:=by
  unfold iz;by_cases hx:x<l.length
  ·obtain⟨m,hm⟩:∃m,l.length-x=m+1:=⟨l.length-x-1,by omega⟩;rw[hm];show (if x<l.length then _ else _)=_;rw[aB hx,aB hx,lS l m (l.length-(x+1)) (x+1) (by omega) (au _),lS l m (l.length-(x+2)) (x+2) (by omega) (au _)]
  ·rw[aC hx,show l.length-x=0 by omega];rfl
theorem oN (l:List UInt8):∀(m x:Nat),l.length-x=m→x≤l.length→x≤iz l x∧iz l x≤l.length:=by
  intro m
  induction m using Nat.strongRecOn with
  | _ m ih=>
    intro x hm hx;rw[ja];by_cases hl:x<l.length
    ·rw[aB hl];split
     ·have:=ih (l.length-(x+1)) (by omega) (x+1) rfl (by omega);omega
     ·split
      ·rename_i hc;have hc2:x+1<l.length:=by unfold iq at hc;simp at hc;exact hc.1.1
       have:=ih (l.length-(x+2)) (by omega) (x+2) rfl (by omega);omega
      ·omega
    ·rw[aC hl];omega
theorem Dn (l:List UInt8) (x:Nat) (hx:x<l.length):x<iz l x↔iJ (l.getD x 0)=true∨iq l x=true:=by
  rw[ja,aB hx];split
  ·rename_i h
   have:=oN l _ (x+1) rfl (by omega)
   exact⟨fun _=>.inl h,fun _=>by omega⟩
  ·rename_i h;split
   ·rename_i hc;have hc2:x+1<l.length:=by unfold iq at hc;simp at hc;exact hc.1.1
    have:=oN l _ (x+2) rfl (by omega)
    exact⟨fun _=>.inr hc,fun _=>by omega⟩
   ·rename_i hc;exact⟨fun h2=>by omega,fun h2=>by rcases h2 with h2|h2;exact absurd h2 h;exact absurd h2 hc⟩
abbrev kC (l:List UInt8) (x:Nat):Nat:=fL jh l x
def mQ (l:List UInt8) (x:Nat):Bool:=decide (0<kC l x)&&decide (x+kC l x<l.length)&&((l.getD (x+kC l x) 0).toNat==60||(l.getD (x+kC l x) 0).toNat==62)
structure Tk where
  kd:Nat
  fr:Nat
  to:Nat
  op:Bool
abbrev Dl:=List UInt8×Bool
structure Lx where
  aw:Int
  pd:List Dl
  bd:Bool
def Br (w:List UInt8):Bool:=decide (Oh (iA w w.length).1=[])
def fY (l:List UInt8) (x:Nat):Tk:=
  if iJ (l.getD x 0)=true∨iq l x=true then ⟨1,x,iz l x,false⟩
  else if (l.getD x 0).toNat=10 then ⟨2,x,x+1,false⟩
  else if (l.getD x 0).toNat=35 then ⟨3,x,gM l x,false⟩
  else if 0<(jB l x).2 then ⟨4,x,x+(jB l x).2,false⟩
  else if mQ l x=true then ⟨5,x,x+kC l x,false⟩
  else ⟨6,x,x+lE l x,!Br (sub l x (x+lE l x))⟩
def iQ (t:List UInt8) (k:Nat) (X:Lx):Lx:=
  if k=1 then ⟨X.aw,X.pd,false⟩
  else if k=2 then ⟨0,X.pd,!X.pd.isEmpty⟩
  else if k=4 then ⟨if iR t=4∨iR t=5 then (iR t:Int) else 0,X.pd,false⟩
  else if k=6 then ⟨0,if X.aw≠0 then X.pd++[(vG (o9 t),decide (X.aw=5))] else X.pd,false⟩
  else ⟨0,X.pd,false⟩
def nT (l:List UInt8) (x:Nat) (X:Lx) (d:Dl) (r:List Dl):Tk×Lx:=
  if (iD l x d.1 d.2).2=true then (⟨7,x,(iD l x d.1 d.2).1,false⟩,⟨X.aw,r,!r.isEmpty⟩) else (⟨7,x,(iD l x d.1 d.2).1,true⟩,X)
def eU (l:List UInt8) (x:Nat) (X:Lx):Tk×Lx:=
  match X.bd,X.pd with
  | true,d::r=>nT l x X d r
  | _,_=>(fY l x,iQ (sub l x (fY l x).to) (fY l x).kd X)
def wE (l:List UInt8):Nat→Nat→Lx→List Tk×Lx
  | 0,_,X=>([],X)
  | m+1,x,X=>if x<l.length then ((eU l x X).1::(wE l m (eU l x X).1.to (eU l x X).2).1,(wE l m (eU l x X).1.to (eU l x X).2).2) else ([],X)
def mZ:Lx:=⟨0,[],false⟩
def jf (l:List UInt8):List Tk×Lx:=wE l (l.length+1) 0 mZ
theorem og (l:List UInt8) (x n:Nat) (h:x≤l.length):sub l x (x+n)=(l.drop x).take n:=by unfold sub;rw[List.drop_take];congr 1;omega
theorem js (l:List UInt8) (x i:Nat):(l.drop x).getD i 0=l.getD (x+i) 0:=by simp[aF]
theorem Bh (p:UInt8→Bool):∀(m:List UInt8),(m.takeWhile p).length<m.length→p (m.getD (m.takeWhile p).length 0)=false
  | [],h=>by simp at h
  | b::m,h=>by
    by_cases hb:p b=true
    ·rw[cR,aB hb] at h ⊢;exact Bh p m (by simpa using h)
    ·rw[cR,aC hb];simpa using hb
theorem Bg (p:UInt8→Bool):∀(m:List UInt8) (k:Nat),(∀i,i<k→p (m.getD i 0)=true)→k<m.length→p (m.getD k 0)=false→(m.takeWhile p).length=k
  | [],k,_,h,_=>by simp at h
  | b::m,0,_,_,h=>by
    have hb:p b=false:=h;rw[cR,aC (by rw[hb];decide)];rfl
  | b::m,k+1,h1,h2,h3=>by
    have hb:p b=true:=h1 0 (by omega);rw[cR,aB hb,aL,Bg p m k (fun i hi=>h1 (i+1) (by omega)) (by simpa using h2) h3]
theorem xC (l:List UInt8) (x i:Nat) (h:i<fL p l x):p (l.getD (x+i) 0)=true:=by
  rw[←js];exact Bj p (l.drop x) i h
theorem Cy (l:List UInt8) (x:Nat) (h:x+fL p l x<l.length):p (l.getD (x+fL p l x) 0)=false:=by
  rw[←js];exact Bh p (l.drop x) (by have:fL p l x=((l.drop x).takeWhile p).length:=rfl;rw[aZ];omega)
theorem Cx (l:List UInt8) (x k:Nat) (h1:∀i,i<k→p (l.getD (x+i) 0)=true) (h2:x+k<l.length) (h3:p (l.getD (x+k) 0)=false):fL p l x=k:=
  Bg p (l.drop x) k (fun i hi=>by rw[js];exact h1 i hi) (by rw[aZ];omega) (by rw[js];exact h3)
theorem mS (l:List UInt8) (x:Nat):gM l x=x+fL (fun c=>c.toNat != 10) l x:=rfl
structure Ag (n:Nat) (l l':List UInt8):Prop where
  h:n≤l.length
  h':n≤l'.length
  e:∀i,i<n→l.getD i 0=l'.getD i 0
theorem Ag.symm (a:Ag n l l'):Ag n l' l:=⟨a.h',a.h,fun i hi=>(a.e i hi).symm⟩
theorem Ag.app (a b c:List UInt8):Ag a.length (a++b) (a++c):=⟨by simp,by simp,fun i hi=>by rw[aF,aF,aU hi,aU hi]⟩
theorem Ag.take (a:Ag n l l') (hy:y≤n):l.take y=l'.take y:=by
  refine List.ext_getElem? fun i=>?_
  rw[cG,cG];split
  ·rename_i hi
   have:=a.e i (by omega)
   rw[aF,aF,ax (by have:=a.h;omega),ax (by have:=a.h';omega)] at this;rw[ax (by have:=a.h;omega),ax (by have:=a.h';omega)];exact congrArg some this
  ·rfl
theorem Ag.sub (a:Ag n l l') (hy:y≤n):sub l x y=sub l' x y:=by unfold Go.Proofs.YtmclohkaiemnaaaGreatDoor.sub;rw[a.take hy]
theorem Ag.span (a:Ag n l l') {p:UInt8→Bool} (h:x+fL p l x<n):fL p l' x=fL p l x:=by
  have h1:=a.h;have h2:=a.h';refine Cx p l' x _ (fun i hi=>?_) (by omega) ?_
  ·rw[←a.e _ (by omega)];exact xC p l x i hi
  ·rw[←a.e _ (by omega)];exact Cy p l x (by omega)
theorem Ag.line (a:Ag n l l') (h:gM l x<n):gM l' x=gM l x:=by
  rw[mS,mS] at *;rw[a.span h]
theorem Ag.here (a:Ag n l l') (w:List UInt8) (t:Bool):∀(m x:Nat),l.length-x=m→x<l.length→(iD l x w t).1<n→iD l' x w t=iD l x w t:=by
  intro m
  induction m using Nat.strongRecOn with
  | _ m ih=>
    intro x hm hx h;have h1:=a.h;have h2:=a.h';have hle:=tL l w t _ x rfl hx;have hle2:=ml l x hx;have hln:=nK l x (by omega);have hnext:lineE l x≤(iD l x w t).1:=by
      rw[iY,aB hx];split
      ·exact au _
      ·by_cases hy:lineE l x<l.length
       ·exact aM (tL l w t _ (lineE l x) rfl hy).1
       ·rw[iY,aC hy];exact au _
    have hlt:gM l x<l.length:=by
      refine Nat.lt_of_not_le fun hh=>?_
      have:lineE l x=gM l x:=by unfold lineE;rw[aC (by omega)]
      omega
    have hE:lineE l x=gM l x+1:=by unfold lineE;rw[aB hlt]
    have hL:=a.line (x:=x) (by omega);have hE':lineE l' x=lineE l x:=by unfold lineE;rw[hL,aB hlt,aB (by omega)]
    have h0:=h;have hxl:x<l'.length:=by omega
    have hsub:=a.sub (x:=x) (y:=gM l x) (by omega);rw[iY] at h;rw[iY l' x,iY l x,aB hx,aB hxl,hL,hE',←hsub];rw[aB hx] at h;split
    ·rfl
    ·rename_i hw;rw[aC hw] at h;exact ih (l.length-lineE l x) (by omega) (lineE l x) rfl (by omega) h
theorem Ag.cont (a:Ag n l l') (h:x+1<n):iq l' x=iq l x:=by
  have h1:=a.h;have h2:=a.h';unfold iq;rw[a.e x (by omega),a.e (x+1) h,aG (show x+1<l.length by omega),aG (show x+1<l'.length by omega)]
theorem Ag.blank (a:Ag n l l'):∀(m x:Nat),l.length-x=m→x≤l.length→iz l x+2≤n→iz l' x=iz l x:=by
  intro m
  induction m using Nat.strongRecOn with
  | _ m ih=>
    intro x hm hx h;have h1:=a.h;have h2:=a.h';have hle:=oN l _ x rfl hx;have hx1:x<l.length:=by omega
    have hx2:x<l'.length:=by omega
    have ee:=a.e x (by omega);have ec:=a.cont (x:=x) (by omega);have h0:x+2≤l.length:=by omega
    rw[ja l' x,ja l x,aB hx1,aB hx2,←ee,ec];rw[ja l x,aB hx1] at h;split
    ·rename_i hb;rw[aB hb] at h;exact ih (l.length-(x+1)) (by omega) (x+1) rfl (by omega) h
    ·rename_i hb;rw[aC hb] at h;split
     ·rename_i hc;rw[aB hc] at h;exact ih (l.length-(x+2)) (by omega) (x+2) rfl (by omega) h
     ·rfl
theorem Ag.op (a:Ag n l l') (h:x+3≤n):jB l' x=jB l x:=by
  have h1:=a.h;have h2:=a.h';unfold jB;rw[a.e x (by omega),show min 3 (l.length-x)=3 by omega,show min 3 (l'.length-x)=3 by omega,←qa _ 3 3 (au _),←qa (l.drop x) 3 3 (au _)];have e:(l.drop x).take 3=(l'.drop x).take 3:=by
    rw[←og l x 3 (by omega),←og l' x 3 (by omega)];exact a.sub h
  rw[e]
theorem uP {l l':List UInt8}:∀(k:Nat),(∀i,i<k→l.getD i 0=l'.getD i 0)→iA l k=iA l' k
  | 0,_=>rfl
  | k+1,h=>by
    show f9 (iA l k).1 (iA l k).2 (l.getD k 0) k=f9 (iA l' k).1 (iA l' k).2 (l'.getD k 0) k;rw[uP k (fun i hi=>h i (by omega)),h k (by omega)]
theorem Ag.stop (a:Ag n l l') (h:x+j<n):gQ l' x j=gQ l x j:=by
  unfold gQ;rw[a.e _ h,uP (l:=l'.drop x) (l':=l.drop x) j (fun i hi=>by rw[js,js,a.e _ (by omega)])]
theorem kM (s:Nat→Bool):∀(m k:Nat),k≤lH s m k∧lH s m k≤k+m∧(∀j,k≤j→j<lH s m k→s j=false)∧(lH s m k<k+m→s (lH s m k)=true)
  | 0,k=>⟨au _,au _,fun j h1 h2=>by simp only[lH] at h2;omega,fun h=>by simp only[lH] at h;omega⟩
  | m+1,k=>by
    unfold lH;by_cases hs:s k=true
    ·rw[aB hs];exact⟨au _,by omega,fun j h1 h2=>by omega,fun _=>hs⟩
    ·rw[aC hs];obtain⟨h1,h2,h3,h4⟩:=kM s m (k+1);refine⟨by omega,by omega,fun j h5 h6=>?_,fun h=>h4 (by omega)⟩;by_cases e:j=k
     ·subst e;simpa using hs
     ·exact h3 j (by omega) h6
theorem Df (k e:Nat) (h1:k≤e) (h2:e<k+m) (h3:∀j,k≤j→j<e→s j=false) (h4:s e=true):lH s m k=e:=by
  obtain⟨a1,a2,a3,a4⟩:=kM s m k;have b1:¬lH s m k<e:=fun h=>by have:=h3 _ a1 h;rw[a4 (by omega)] at this;cases this
  have b2:¬e<lH s m k:=fun h=>by have:=a3 _ h1 h;rw[h4] at this;cases this
  omega
theorem Cc (l:List UInt8) (x:Nat):lE l x≤l.length-x:=by
  have:=(kM (gQ l x) (l.length-x) 0).2.1
  unfold lE;omega
theorem Ag.word (a:Ag n l l') (h:x+lE l x<n):lE l' x=lE l x:=by
  have h1:=a.h;have h2:=a.h';obtain⟨a1,a2,a3,a4⟩:=kM (gQ l x) (l.length-x) 0;have e:lH (gQ l x) (l.length-x) 0=lE l x:=rfl;rw[e] at a1 a2 a3 a4;refine Df _ _ _ _ (by omega) (by omega) (fun j hj hj2=>?_) ?_
  ·rw[a.stop (by omega)];exact a3 j hj hj2
  ·rw[a.stop h];exact a4 (by omega)
theorem GC (h:jh c=true):iO c=false:=by
  have:=gh (fun c => !jh c || !iO c) (by decide +kernel) c
  simpa [h] using this
theorem GB (l:List UInt8) (x:Nat):kC l x≤lE l x:=by
  obtain⟨a1,a2,a3,a4⟩:=kM (gQ l x) (l.length-x) 0;have e:lH (gQ l x) (l.length-x) 0=lE l x:=rfl;rw[e] at a1 a2 a3 a4;refine Nat.le_of_not_lt fun h=>?_
  have h1:kC l x≤l.length-x:=jx jh l x;have h2:=a4 (by omega);have h3:=GC _ (xC jh l x _ h);unfold gQ rL at h2;rw[h3] at h2;simp at h2
theorem Ag.num (a:Ag n l l') (h:x+kC l x<n):mQ l' x=mQ l x:=by
  have h1:=a.h;have h2:=a.h';have hs:kC l' x=kC l x:=a.span h;unfold mQ;rw[hs,a.e _ h,aG (show x+kC l x<l.length by omega),aG (show x+kC l x<l'.length by omega)]
theorem ym (l:List UInt8) (x:Nat) (hx:x<l.length) (h:iO (l.getD x 0)=false):0<lE l x:=by
  obtain⟨a1,a2,a3,a4⟩:=kM (gQ l x) (l.length-x) 0;have e:lH (gQ l x) (l.length-x) 0=lE l x:=rfl;rw[e] at a1 a2 a3 a4;refine Nat.pos_of_ne_zero fun h0=>?_
  rw[h0] at a4
  have:=a4 (by omega)
  unfold gQ rL at this;rw[cQ,h] at this;simp at this
theorem J4 (h:iO c=true):iJ c=true∨c.toNat=10∨fI c=3:=by
  have:=gh (fun c => !iO c||(iJ c||c.toNat==10||fI c==3)) (by decide +kernel) c
  simpa [h,or_assoc] using this
theorem me (l:List UInt8) (x:Nat) (hx:x<l.length):(fY l x).fr=x∧x<(fY l x).to∧(fY l x).to≤l.length∧1≤(fY l x).kd∧(fY l x).kd≤6:=by
  unfold fY;split
  ·rename_i h;have h1:=(Dn l x hx).2 h;have h2:=oN l _ x rfl (by omega);exact⟨rfl,h1,h2.2,(by decide:1≤1),(by decide:1≤6)⟩
  ·rename_i h;split
   ·exact⟨rfl,dM _,hx,(by decide:1≤2),(by decide:2≤6)⟩
   ·rename_i h10;split
    ·rename_i h35;have h1:=nK l x (by omega);refine⟨rfl,?_,h1.2,(by decide:1≤3),(by decide:3≤6)⟩;show x<gM l x
     have:((l.drop x).takeWhile fun c=>c.toNat != 10).length≠0:=by
       rw[cq hx,cR,aB]
       ·simp
       ·rw[aF,ax hx] at h35;have h35:(l[x]).toNat=35:=h35;rw[h35];rfl
     unfold gM;omega
    ·split
     ·rename_i hop;refine⟨rfl,?_,?_,(by decide:1≤4),(by decide:4≤6)⟩
      ·show x<x+_;omega
      ·show x+(jB l x).2≤l.length
       have:∀(d:List UInt8) (n:Nat),(ut d n).2≤n:=by
         intro d n
         induction n with
         | zero=>exact au _
         | succ n ih=>unfold ut;split;exact au _;omega
       unfold jB;split
       ·simp;omega
       ·have:=this (l.drop x) (min 3 (l.length-x));omega
     ·rename_i hop;split
      ·rename_i hn;unfold mQ at hn;simp at hn;exact⟨rfl,by show x<x+_;omega,by show x+_≤_;omega,(by decide:1≤5),(by decide:5≤6)⟩
      ·rename_i hn;have he:iO (l.getD x 0)=false:=by
         cases h2:iO (l.getD x 0)
         ·rfl
         ·exfalso;rcases J4 _ h2 with h3|h3|h3
          ·exact h (.inl h3)
          ·exact h10 h3
          ·exact hop ((Jl l x hx).2.2.2 h3)
       have h1:=ym l x hx he;have h2:=Cc l x;exact⟨rfl,by show x<x+_;omega,by show x+_≤_;omega,(by decide:1≤6),(by decide:6≤6)⟩
theorem Kb (l:List UInt8) (x:Nat) (hx:x<l.length) (X:Lx) (d:Dl) (r:List Dl):(nT l x X d r).1.fr=x∧x<(nT l x X d r).1.to∧(nT l x X d r).1.to≤l.length∧(nT l x X d r).1.kd=7:=by
  have h:=tL l d.1 d.2 _ x rfl hx;unfold nT;split
  ·exact⟨rfl,h.1,h.2.1,rfl⟩
  ·exact⟨rfl,h.1,h.2.1,rfl⟩
theorem ii (l:List UInt8) (x:Nat) (hx:x<l.length) (X:Lx):(eU l x X).1.fr=x∧x<(eU l x X).1.to∧(eU l x X).1.to≤l.length∧1≤(eU l x X).1.kd∧(eU l x X).1.kd≤7:=by
  have hp:=me l x hx;unfold eU;split
  ·rename_i d r _ _
   have:=Kb l x hx X d r
   exact⟨this.1,this.2.1,this.2.2.1,by omega,by omega⟩
  ·exact⟨hp.1,hp.2.1,hp.2.2.1,hp.2.2.2.1,by have:=hp.2.2.2.2;show (fY l x).kd≤7;omega⟩
theorem Ag.plain (a:Ag n l l') (hx:x<l.length) (h:(fY l x).to+2≤n):fY l' x=fY l x:=by
  have h1:=a.h;have h2:=a.h';have hto:=me l x hx;have ee:=a.e x (by omega);have ec:=a.cont (x:=x) (by omega);have eo:=a.op (x:=x) (by omega);unfold fY at h;unfold fY;rw[←ee,ec,eo];split
  ·rename_i hb;rw[aB hb] at h;rw[a.blank _ x rfl (by omega) h]
  ·rename_i hb;rw[aC hb] at h;split
   ·rfl
   ·rename_i h10;rw[aC h10] at h;split
    ·rename_i h35;rw[aB h35] at h;have h:gM l x+2≤n:=h;rw[a.line (by omega)]
    ·rename_i h35;rw[aC h35] at h;split
     ·rfl
     ·rename_i hop;rw[aC hop] at h;by_cases hn:mQ l x=true
      ·rw[aB hn] at h;have h:x+kC l x+2≤n:=h;have hs:kC l' x=kC l x:=a.span (by show x+kC l x<n;omega);rw[a.num (by omega),aB hn,aB hn,hs]
      ·rw[aC hn] at h;have h:x+lE l x+2≤n:=h;have hd:=GB l x;rw[a.num (by omega),aC hn,aC hn,a.word (by omega),←a.sub (by omega)]
theorem Ag.step {n:Nat} {l l':List UInt8} (a:Ag n l l') {x:Nat} (hx:x<l.length) (X:Lx) (h:(eU l x X).1.to+2≤n):eU l' x X=eU l x X:=by
  unfold eU at h ⊢;split
  ·rename_i d r hb hp;rw[hb,hp] at h;have hh:(iD l x d.1 d.2).1+2≤n:=by
     simp only[nT] at h;split at h<;>exact h
   unfold nT;rw[a.here d.1 d.2 _ x rfl hx (by omega)]
  ·rename_i hne;have h:(fY l x).to+2≤n:=by
     split at h
     ·rename_i d r hb hp;exact absurd hp (fun hp=>hne d r hb hp)
     ·exact h
   rw[a.plain hx h,←a.sub (by omega)]
theorem vc (l:List UInt8):∀(m m' x:Nat) (X:Lx),l.length<m+x→l.length<m'+x→wE l m x X=wE l m' x X
  | 0,m',x,X,h,h'=>by
    cases m' with
    | zero=>rfl
    | succ m'=>unfold wE;rw[aC (by omega)]
  | m+1,0,x,X,h,h'=>by unfold wE;rw[aC (by omega)]
  | m+1,m'+1,x,X,h,h'=>by
    unfold wE;by_cases hx:x<l.length
    ·have:=ii l x hx X
     rw[aB hx,aB hx,vc l m m' _ _ (by omega) (by omega)]
    ·rw[aC hx,aC hx]
def nL (l:List UInt8) (x:Nat) (X:Lx):List Tk×Lx:=wE l (l.length+1-x) x X
theorem jC (l:List UInt8) (x:Nat) (X:Lx):nL l x X=if x<l.length then ((eU l x X).1::(nL l (eU l x X).1.to (eU l x X).2).1,(nL l (eU l x X).1.to (eU l x X).2).2) else ([],X):=by
  unfold nL;by_cases hx:x<l.length
  ·obtain⟨m,hm⟩:∃m,l.length+1-x=m+1:=⟨l.length-x,by omega⟩
   have:=ii l x hx X
   rw[hm];show (if x<l.length then _ else _)=_;rw[aB hx,aB hx,vc l m (l.length+1-(eU l x X).1.to) (eU l x X).1.to (eU l x X).2 (by omega) (by omega)]
  ·rw[aC hx];by_cases h0:l.length+1-x=0
   ·rw[h0];rfl
   ·obtain⟨m,hm⟩:∃m,l.length+1-x=m+1:=⟨l.length+1-x-1,by omega⟩;rw[hm];show (if x<l.length then _ else _)=_;rw[aC hx]
structure Tl (l l':List UInt8) (x x':Nat):Prop where
  h:x≤l.length
  h':x'≤l'.length
  e:l.drop x=l'.drop x'
theorem Tl.len (a:Tl l l' x x'):l.length-x=l'.length-x':=by
  have:=congrArg List.length a.e
  simpa using this
theorem Tl.next (a:Tl l l' x x') (hk:x+k≤l.length):Tl l l' (x+k) (x'+k):=
  ⟨hk,by have:=a.len;have:=a.h';omega,by rw[←dN,←dN,a.e]⟩
theorem Tl.get (a:Tl l l' x x') (k:Nat):l'.getD (x'+k) 0=l.getD (x+k) 0:=by rw[←js,←js,a.e]
theorem Tl.get0 (a:Tl l l' x x'):l'.getD x' 0=l.getD x 0:=a.get 0
theorem Tl.lt (a:Tl l l' x x'):x<l.length↔x'<l'.length:=by have:=a.len;have:=a.h;have:=a.h';omega
theorem Tl.span (a:Tl l l' x x') (p:UInt8→Bool):fL p l' x'=fL p l x:=by unfold fL;rw[a.e]
theorem Tl.sub (a:Tl l l' x x') (n:Nat):sub l' x' (x'+n)=sub l x (x+n):=by rw[og _ _ _ a.h',og _ _ _ a.h,a.e]
theorem Tl.line (a:Tl l l' x x'):∃n,gM l x=x+n∧gM l' x'=x'+n:=
  ⟨_,mS l x,by rw[mS,a.span]⟩
theorem Tl.lineE (a:Tl l l' x x'):∃n,lineE l x=x+n∧lineE l' x'=x'+n:=by
  obtain⟨n,h1,h2⟩:=a.line;have h3:=a.len;have h4:=a.h;have h5:=a.h';unfold Go.Proofs.YtmclohkaiemnaaaGreatDoor.lineE;rw[h1,h2];by_cases h:x+n<l.length
  ·rw[aB h,aB (by omega)];exact⟨n+1,rfl,rfl⟩
  ·rw[aC h,aC (by omega)];exact⟨n,rfl,rfl⟩
theorem Tl.here:∀(m x x':Nat),l.length-x=m→Tl l l' x x'→∃n,(iD l x w t).1=x+n∧(iD l' x' w t).1=x'+n∧(iD l' x' w t).2=(iD l x w t).2:=by
  intro m
  induction m using Nat.strongRecOn with
  | _ m ih=>
    intro x x' hm a;rw[iY l x,iY l' x'];by_cases hx:x<l.length
    ·rw[aB hx,aB (a.lt.1 hx)];obtain⟨n,h1,h2⟩:=a.line;obtain⟨e,e1,e2⟩:=a.lineE;have hs:=a.sub n;rw[←h1,←h2] at hs;rw[hs];by_cases hw:ni t (Go.Proofs.YtmclohkaiemnaaaGreatDoor.sub l x (gM l x))=w
     ·rw[aB hw,aB hw];exact⟨e,e1,e2,rfl⟩
     ·rw[aC hw,aC hw];have hle:=ml l x hx;obtain⟨k,k1,k2,k3⟩:=ih (l.length-Go.Proofs.YtmclohkaiemnaaaGreatDoor.lineE l x) (by omega) (Go.Proofs.YtmclohkaiemnaaaGreatDoor.lineE l x) (Go.Proofs.YtmclohkaiemnaaaGreatDoor.lineE l' x') rfl (by rw[e1,e2];exact a.next (by omega));exact⟨e+k,by omega,by omega,k3⟩
    ·rw[aC hx,aC (fun h=>hx (a.lt.2 h))];exact⟨0,rfl,rfl,rfl⟩
theorem Tl.cont (a:Tl l l' x x'):iq l' x'=iq l x:=by
  have h3:=a.len;have h4:=a.h;have h5:=a.h';unfold iq;rw[a.get0,a.get 1,show decide (x'+1<l'.length)=decide (x+1<l.length) from decide_eq_decide.2 (by omega)]
theorem Tl.blank:∀(m x x':Nat),l.length-x=m→Tl l l' x x'→∃n,iz l x=x+n∧iz l' x'=x'+n:=by
  intro m
  induction m using Nat.strongRecOn with
  | _ m ih=>
    intro x x' hm a;rw[ja l x,ja l' x',a.get0,a.cont];by_cases hx:x<l.length
    ·rw[aB hx,aB (a.lt.1 hx)];by_cases hb:iJ (l.getD x 0)=true
     ·rw[aB hb,aB hb];obtain⟨n,h1,h2⟩:=ih (l.length-(x+1)) (by omega) (x+1) (x'+1) rfl (a.next (by omega));exact⟨1+n,by omega,by omega⟩
     ·rw[aC hb,aC hb];by_cases hc:iq l x=true
      ·have hc2:x+1<l.length:=by unfold iq at hc;simp at hc;exact hc.1.1
       rw[aB hc,aB hc];obtain⟨n,h1,h2⟩:=ih (l.length-(x+2)) (by omega) (x+2) (x'+2) rfl (a.next (by omega));exact⟨2+n,by omega,by omega⟩
      ·rw[aC hc,aC hc];exact⟨0,rfl,rfl⟩
    ·rw[aC hx,aC (fun h=>hx (a.lt.2 h))];exact⟨0,rfl,rfl⟩
theorem Tl.op (a:Tl l l' x x'):jB l' x'=jB l x:=by
  unfold jB;rw[a.get0,a.e,a.len]
theorem Tl.word (a:Tl l l' x x'):lE l' x'=lE l x:=by
  unfold lE;rw[show gQ l' x'=gQ l x from funext fun j=>by unfold gQ;rw[a.e,a.get j],a.len]
theorem Tl.num (a:Tl l l' x x'):mQ l' x'=mQ l x:=by
  have h3:=a.len;have h4:=a.h;have h5:=a.h';unfold mQ kC;rw[a.span,a.get,show decide (x'+fL jh l x<l'.length)=decide (x+fL jh l x<l.length) from decide_eq_decide.2 (by omega)]
def KY (d d':Nat) (t:Tk):Tk:=⟨t.kd,t.fr-d+d',t.to-d+d',t.op⟩
theorem nI (d d' k x n:Nat) (o:Bool) (h:d≤x):KY d d' ⟨k,x,x+n,o⟩=⟨k,x-d+d',x-d+d'+n,o⟩:=by
  unfold KY;simp only[Tk.mk.injEq,true_and,and_true];omega
theorem Tl.plain {d:Nat} (h:d≤x) (a:Tl l l' x (x-d+d')):fY l' (x-d+d')=KY d d' (fY l x):=by
  unfold fY;rw[a.get0,a.cont,a.op,a.num,a.word];obtain⟨n,h1,h2⟩:=Tl.blank _ x _ rfl a;obtain⟨m,m1,m2⟩:=a.line;rw[h1,h2,m1,m2,a.sub,show kC l' (x-d+d')=kC l x from a.span jh];split
  ·rw[nI _ _ _ _ _ _ h]
  ·split
   ·rw[nI _ _ _ _ _ _ h]
   ·split
    ·rw[nI _ _ _ _ _ _ h]
    ·split
     ·rw[nI _ _ _ _ _ _ h]
     ·split
      ·rw[nI _ _ _ _ _ _ h]
      ·rw[nI _ _ _ _ _ _ h]
theorem Tl.step {l l':List UInt8} {x d d':Nat} (h:d≤x) (a:Tl l l' x (x-d+d')) (hx:x<l.length) (X:Lx):eU l' (x-d+d') X=(KY d d' (eU l x X).1,(eU l x X).2):=by
  have hto:=me l x hx;unfold eU;split
  ·rename_i e r _ _;obtain⟨n,h1,h2,h3⟩:=Tl.here e.1 e.2 _ x _ rfl a;unfold nT;rw[h3,h2,h1];split
   ·rw[nI _ _ _ _ _ _ h]
   ·rw[nI _ _ _ _ _ _ h]
  ·rw[Tl.plain h a];obtain⟨n,hn⟩:∃n,(fY l x).to=x+n:=⟨(fY l x).to-x,by omega⟩;have e1:(KY d d' (fY l x)).to=x-d+d'+n:=by show (fY l x).to-d+d'=_;omega
   rw[e1,a.sub,hn];rfl
def zZ (l:List UInt8):Nat→Nat→Lx→List (Tk×Lx)
  | 0,_,_=>[]
  | m+1,x,X=>if x<l.length then ((eU l x X).1,X)::zZ l m (eU l x X).1.to (eU l x X).2 else []
theorem uR (l:List UInt8):∀(m m' x:Nat) (X:Lx),l.length<m+x→l.length<m'+x→zZ l m x X=zZ l m' x X
  | 0,m',x,X,h,h'=>by
    cases m' with
    | zero=>rfl
    | succ m'=>unfold zZ;rw[aC (by omega)]
  | m+1,0,x,X,h,h'=>by unfold zZ;rw[aC (by omega)]
  | m+1,m'+1,x,X,h,h'=>by
    unfold zZ;by_cases hx:x<l.length
    ·have:=ii l x hx X
     rw[aB hx,aB hx,uR l m m' _ _ (by omega) (by omega)]
    ·rw[aC hx,aC hx]
def ic (l:List UInt8) (x:Nat) (X:Lx):List (Tk×Lx):=zZ l (l.length+1-x) x X
theorem gT (l:List UInt8) (x:Nat) (X:Lx):ic l x X=if x<l.length then ((eU l x X).1,X)::ic l (eU l x X).1.to (eU l x X).2 else []:=by
  unfold ic;by_cases hx:x<l.length
  ·obtain⟨m,hm⟩:∃m,l.length+1-x=m+1:=⟨l.length-x,by omega⟩
   have:=ii l x hx X
   rw[hm];show (if x<l.length then _ else _)=_;rw[aB hx,aB hx,uR l m (l.length+1-(eU l x X).1.to) (eU l x X).1.to (eU l x X).2 (by omega) (by omega)]
  ·rw[aC hx];by_cases h0:l.length+1-x=0
   ·rw[h0];rfl
   ·obtain⟨m,hm⟩:∃m,l.length+1-x=m+1:=⟨l.length+1-x-1,by omega⟩;rw[hm];show (if x<l.length then _ else _)=_;rw[aC hx]
theorem pU {P:Nat→Lx→Prop} (l:List UInt8) (h0:∀x X,¬x<l.length→P x X) (h1:∀x X,x<l.length→P (eU l x X).1.to (eU l x X).2→P x X):∀x X,P x X:=by
  suffices h:∀m x X,l.length-x=m→P x X from fun x X=>h _ x X rfl
  intro m
  induction m using Nat.strongRecOn with
  | _ m ih=>
    intro x X hm;by_cases hx:x<l.length
    ·have:=ii l x hx X
     exact h1 x X hx (ih _ (by omega) _ _ rfl)
    ·exact h0 x X hx
theorem Tl.plc {d:Nat}:∀(x:Nat) (X:Lx),d≤x→Tl l l' x (x-d+d')→ic l' (x-d+d') X=(ic l x X).map (fun p=>(KY d d' p.1,p.2))∧(nL l' (x-d+d') X).2=(nL l x X).2:=
  pU l (fun x X hx h a=>by
      have hx':¬x-d+d'<l'.length:=fun h=>hx (a.lt.2 h)
      rw[gT,gT l,jC,jC l,aC hx,aC hx,aC hx',aC hx'];exact⟨rfl,rfl⟩)
    (fun x X hx ih h a=>by
      have hx':=a.lt.1 hx;have hto:=ii l x hx X;have hs:=a.step h hx X;rw[gT,gT l,jC,jC l,aB hx,aB hx,aB hx',aB hx',hs];have e1:(KY d d' (eU l x X).1).to=(eU l x X).1.to-d+d':=rfl;have ih:=ih (by omega) (by
        have:=a.next (k:=(eU l x X).1.to-x) (by omega)
        rwa [show x+((eU l x X).1.to-x)=(eU l x X).1.to by omega,show x-d+d'+((eU l x X).1.to-x)=(eU l x X).1.to-d+d' by omega] at this)
      simp only[e1,ih.1,ih.2,cF,and_self])
def nw (l:List UInt8):Nat→Nat→Lx→Nat×Lx
  | 0,x,X=>(x,X)
  | k+1,x,X=>if x<l.length then nw l k (eU l x X).1.to (eU l x X).2 else (x,X)
theorem vN (l:List UInt8):∀k x X,x≤l.length→(nw l k x X).1≤l.length
  | 0,x,X,h=>h
  | k+1,x,X,h=>by
    unfold nw;by_cases hx:x<l.length
    ·rw[aB hx];exact vN l k _ _ (ii l x hx X).2.2.1
    ·rw[aC hx];exact h
theorem mc (l:List UInt8):∀k x X,ic l x X=(ic l x X).take k++ic l (nw l k x X).1 (nw l k x X).2∧(nL l x X).2=(nL l (nw l k x X).1 (nw l k x X).2).2
  | 0,x,X=>⟨by simp[nw],rfl⟩
  | k+1,x,X=>by
    unfold nw;by_cases hx:x<l.length
    ·rw[aB hx];obtain⟨h1,h2⟩:=mc l k (eU l x X).1.to (eU l x X).2;rw[gT l x X,aB hx,jC l x X,aB hx,cP,bH,←h1];exact⟨rfl,h2⟩
    ·rw[aC hx,gT l x X,aC hx];exact⟨by simp,rfl⟩
theorem nE (l:List UInt8) (k x:Nat) (X:Lx) (h:k≤(ic l x X).length):(ic l x X).drop k=ic l (nw l k x X).1 (nw l k x X).2:=by
  have h1:=(mc l k x X).1;have h2:=cE k (ic l x X);exact List.append_cancel_left (h2.trans h1)
theorem vX {X:Lx} {p:Tk×Lx} (h:(ic l x X)[k]? = some p):(nw l k x X).1<l.length∧p=((eU l (nw l k x X).1 (nw l k x X).2).1,(nw l k x X).2):=by
  have hk:k<(ic l x X).length:=(az.1 h).1;have h1:=nE l k x X (by omega);have h2:((ic l x X).drop k)[0]? = some p:=by rw[bv];exact h
  rw[h1,gT] at h2;by_cases hx:(nw l k x X).1<l.length
  ·rw[aB hx] at h2;injection h2 with h2
   exact⟨hx,h2.symm⟩
  ·rw[aC hx] at h2;cases h2
theorem Je {X:Lx} (hx:x≤l.length):nw l (ic l x X).length x X=(l.length,(nL l x X).2):=by
  have h1:=nE l _ x X (au _);have h2:=(mc l (ic l x X).length x X).2;have h3:=vN l (ic l x X).length x X hx;generalize nw l (ic l x X).length x X=s at h1 h2 h3;rw[List.drop_length,gT] at h1;by_cases hs:s.1<l.length
  ·rw[aB hs] at h1;cases h1
  ·rw[h2,jC,aC hs];exact Prod.ext (show s.1=l.length by omega) rfl
theorem iM (l:List UInt8):∀x X,∀p∈ic l x X,x≤p.1.fr∧p.1.fr<p.1.to∧p.1.to≤l.length:=
  pU l (fun x X h p hp=>by rw[gT,aC h] at hp;cases hp) (fun x X h ih p hp=>by
    have hto:=ii l x h X;rw[gT,aB h] at hp;rcases bj.1 hp with rfl|hp
    ·exact⟨by show x≤(eU l x X).1.fr;omega,by show (eU l x X).1.fr<(eU l x X).1.to;omega,hto.2.2.1⟩
    ·have:=ih p hp
     exact⟨by omega,this.2⟩)
theorem kV {X:Lx} {p q:Tk×Lx} (hi:(ic l x X)[i]? = some p) (hj:(ic l x X)[j]? = some q) (hij:i<j):p.1.to≤q.1.fr:=by
  have hi2:=vX hi;have hil:i<(ic l x X).length:=(az.1 hi).1;have h1:=nE l i x X (by omega);have h2:((ic l x X).drop i)[j-i]? = some q:=by rw[bv,show i+(j-i)=j by omega];exact hj
  rw[h1,gT,aB hi2.1,show j-i=(j-i-1)+1 by omega,cD] at h2
  have:=(iM l _ _ q (aI h2)).1
  rw[hi2.2];exact this
theorem tv {X:Lx} {p:Tk×Lx} (hi:(ic l x X)[i]? = some p):p.1.fr=(nw l i x X).1∧p.2=(nw l i x X).2:=by
  obtain⟨h1,h2⟩:=vX hi
  have:=ii l _ h1 (nw l i x X).2
  rw[h2];exact⟨this.1,rfl⟩
theorem Jd {X:Lx} {p q:Tk×Lx} (hi:(ic l x X)[i]? = some p) (hj:(ic l x X)[j]? = some q) (h:p.1.fr=q.1.fr):i=j:=by
  have h1:=iM l _ _ p (aI hi);have h2:=iM l _ _ q (aI hj);rcases Nat.lt_trichotomy i j with h3|h3|h3
  ·have:=kV hi hj h3;omega
  ·exact h3
  ·have:=kV hj hi h3;omega
theorem LU {X:Lx} {p q:Tk×Lx} (hi:(ic l x X)[i]? = some p) (hj:(ic l x X)[j]? = some q) (h:p.1.fr≤q.1.fr):i≤j:=by
  have h1:=iM l _ _ p (aI hi);refine Nat.le_of_not_lt fun h3=>?_
  have h2:=iM l _ _ q (aI hj)
  have:=kV hj hi h3
  omega
theorem Ag.plc {n:Nat} {l l':List UInt8} (a:Ag n l l'):∀k x X,(∀i p,i<k→(ic l x X)[i]? = some p→p.1.to+2≤n)→k≤(ic l x X).length→x≤l'.length →
    ic l' x X=(ic l x X).take k++ic l' (nw l k x X).1 (nw l k x X).2∧(nL l' x X).2=(nL l' (nw l k x X).1 (nw l k x X).2).2∧(nw l k x X).1≤l'.length
  | 0,x,X,_,_,hx'=>⟨by simp[nw],rfl,hx'⟩
  | k+1,x,X,h,hk,hx'=>by
    have h1:=a.h;have h2:=a.h';by_cases hx:x<l.length
    ·have hto:=ii l x hx X;rw[gT l x X,aB hx] at h hk ⊢;have ht:=h 0 _ (by omega) rfl;have ht:(eU l x X).1.to+2≤n:=ht;have hs:=a.step hx X ht;have hx2:x<l'.length:=by omega
     obtain⟨i1,i2,i3⟩:=Ag.plc a k (eU l x X).1.to (eU l x X).2 (fun i p hi hp=>h (i+1) p (by omega) (by rw[cD];exact hp)) (by simpa using hk) (by omega);unfold nw;rw[aB hx,gT l' x X,aB hx2,jC l' x X,aB hx2,hs,cP,bH,←i1];exact⟨rfl,i2,i3⟩
    ·rw[gT,aC hx] at hk;simp at hk
structure Ed where
  a:List UInt8
  d:List UInt8
  i:List UInt8
  c:List UInt8
def Ed.old (e:Ed):List UInt8:=e.a++(e.d++e.c)
def Ed.new (e:Ed):List UInt8:=e.a++(e.i++e.c)
theorem Ed.ag (e:Ed):Ag e.a.length e.old e.new:=Ag.app e.a (e.d++e.c) (e.i++e.c)
theorem Ed.tl (e:Ed) (h:e.a.length+e.d.length≤x) (hx:x≤e.old.length):Tl e.old e.new x (x-e.d.length+e.i.length):=by
  obtain⟨k,rfl⟩:∃k,x=e.a.length+e.d.length+k:=⟨x-(e.a.length+e.d.length),by omega⟩;unfold Ed.old at hx;simp only[aD] at hx;refine⟨by unfold Ed.old;simp only[aD];omega,by unfold Ed.new;simp only[aD];omega,?_⟩;unfold Ed.old Ed.new
  rw[←aW,←aW,show e.a.length+e.d.length+k-e.d.length+e.i.length=e.a.length+e.i.length+k by omega,
    ←aD,←aD,←dN,←dN,List.drop_left,List.drop_left]
abbrev gI (l:List UInt8):List (Tk×Lx):=ic l 0 mZ
def uv (l:List UInt8) (a:Nat):Nat:=((gI l).takeWhile fun p=>decide (p.1.to+2≤a)).length
theorem DJ {α:Type} (p:α→Bool):∀(L:List α) (i:Nat) (y:α),i<(L.takeWhile p).length→L[i]? = some y→p y=true
  | [],i,y,h,_=>by simp at h
  | b::L,i,y,h,hy=>by
    by_cases hb:p b=true
    ·rw[cR,aB hb] at h
     cases i with
     | zero=>simp at hy;subst hy;exact hb
     | succ i=>exact DJ p L i y (by simpa using h) (by simpa using hy)
    ·rw[cR,aC hb] at h;simp at h
theorem DK {α:Type} (p:α→Bool):∀(L:List α) (y:α),L[(L.takeWhile p).length]? = some y→p y=false
  | [],y,hy=>by simp at hy
  | b::L,y,hy=>by
    by_cases hb:p b=true
    ·rw[cR,aB hb] at hy;exact DK p L y (by simpa using hy)
    ·rw[cR,aC hb] at hy;simp at hy;subst hy;simpa using hb
theorem tO (l:List UInt8) (a:Nat):uv l a≤(gI l).length:=(List.takeWhile_prefix _).length_le
theorem wI {a:Nat} {p:Tk×Lx} (h:(gI l)[i]? = some p):p.1.to+2≤a↔i<uv l a:=by
  constructor
  ·intro hp;refine Nat.lt_of_not_le fun hi=>?_
   have hlt:uv l a<(gI l).length:=Nat.lt_of_le_of_lt hi (az.1 h).1;obtain⟨q,hq⟩:∃q,(gI l)[uv l a]? = some q:=⟨_,ax hlt⟩;have h1:=DK _ _ q hq;simp only[cM] at h1;rcases bC (uv l a) i with h2|h2
   ·have h3:=kV hq h h2;have h4:=iM l _ _ p (aI h);omega
   ·obtain rfl:i=uv l a:=by omega
    rw[h] at hq;injection hq with hq
    rw[←hq] at h1;exact h1 hp
  ·intro hi
   have:=DJ _ _ i p hi h
   simpa using this
abbrev vR (l:List UInt8) (n:Nat):Nat×Lx:=nw l n 0 mZ
theorem IO {p:Tk×Lx} (h:(gI l)[n]? = some p):vR l n=(p.1.fr,p.2):=by
  obtain⟨h1,h2⟩:=tv h;exact Prod.ext h1.symm h2.symm
theorem IP (l:List UInt8):vR l (gI l).length=(l.length,(jf l).2):=Je (bq _)
theorem Ed.head (e:Ed):gI e.new=(gI e.old).take (uv e.old e.a.length)++ic e.new (vR e.old (uv e.old e.a.length)).1 (vR e.old (uv e.old e.a.length)).2 ∧
    (jf e.new).2=(nL e.new (vR e.old (uv e.old e.a.length)).1 (vR e.old (uv e.old e.a.length)).2).2∧(vR e.old (uv e.old e.a.length)).1≤e.new.length:=
  e.ag.plc _ 0 mZ (fun i p hi hp=>(wI hp).2 hi) (tO _ _) (bq _)
structure Mt (e:Ed) (i j:Nat):Prop where
  w:∃p q,(gI e.old)[i]? = some p∧(gI e.new)[j]? = some q∧e.a.length+e.d.length≤p.1.fr∧q.1.fr=p.1.fr-e.d.length+e.i.length∧p.2=q.2
theorem Mt.mono {e:Ed} (h:Mt e i j) (h':Mt e i' j') (hj:j≤j'):i≤i':=by
  obtain⟨p,q,h1,h2,h3,h4,h5⟩:=h.w;obtain⟨p',q',g1,g2,g3,g4,g5⟩:=h'.w;refine LU h1 g1 ?_;rcases Nat.eq_or_lt_of_le hj with rfl|hj
  ·rw[h2] at g2;injection g2 with g2
   rw[g2] at h4;omega
  ·have:=kV h2 g2 hj
   have:=iM e.new _ _ q (aI h2)
   omega
theorem Mt.tail {e:Ed} (h:Mt e i j):(gI e.new).drop j=((gI e.old).drop i).map (fun p=>(KY e.d.length e.i.length p.1,p.2))∧(jf e.new).2=(jf e.old).2 ∧
    (∀p∈(gI e.old).drop i,e.d.length≤p.1.fr∧e.d.length≤p.1.to):=by
  obtain⟨p,q,h1,h2,h3,h4,h5⟩:=h.w;obtain⟨a1,a2⟩:=vX h1;obtain⟨b1,b2⟩:=tv h1;obtain⟨c1,c2⟩:=tv h2;have hi:i<(gI e.old).length:=(az.1 h1).1;have hj:j<(gI e.new).length:=(az.1 h2).1;have hd:=nE e.old i 0 mZ (aM hi);have hx:p.1.fr≤e.old.length:=by have:=iM e.old _ _ p (aI h1);omega
  have ht:=Tl.plc (l:=e.old) (l':=e.new) (d:=e.d.length) (d':=e.i.length) p.1.fr p.2 (by omega) (e.tl h3 hx);have hs:=(mc e.old i 0 mZ).2;have hs':=(mc e.new j 0 mZ).2;rw[←b1,←b2] at hd hs;rw[←c1,←c2,h4,←h5] at hs';refine⟨?_,?_,?_⟩
  ·rw[nE e.new j 0 mZ (aM hj),←c1,←c2,h4,←h5,ht.1,hd]
  ·exact hs'.trans (ht.2.trans hs.symm)
  ·intro r hr;rw[show (gI e.old).drop i=ic e.old p.1.fr p.2 from hd] at hr
   have:=iM e.old _ _ r hr
   omega
structure oX (e:Ed) (T:Nat):Prop where
  w:(T=0∧∀i j,¬Mt e i j)∨∃i j,Mt e i j∧(∀i' j',Mt e i' j'→i≤i')∧T=(gI e.old).length-i
theorem oX.none {e:Ed} (h:∀j,j<(gI e.new).length→∀i,¬Mt e i j):oX e 0:=
  ⟨.inl ⟨rfl,fun i j hm=>by
    obtain⟨p,q,h1,h2,_⟩:=hm.w;exact h j (az.1 h2).1 i hm⟩⟩
theorem oX.some {e:Ed} (hm:Mt e i j) (h:∀j',j'<j→∀i',¬Mt e i' j'):oX e ((gI e.old).length-i):=
  ⟨.inr ⟨i,j,hm,fun i' j' hm'=>hm.mono hm' (Nat.le_of_not_lt fun hj=>h j' hj i' hm'),rfl⟩⟩
theorem Ed.nohead (e:Ed):∀j,j<uv e.old e.a.length→∀i,¬Mt e i j:=by
  intro j hj i hm;obtain⟨p,q,h1,h2,h3,h4,h5⟩:=hm.w;have h6:=e.head.1;have hl:j<((gI e.old).take (uv e.old e.a.length)).length:=by rw[bz];have:=tO e.old e.a.length;omega
  rw[h6,aU hl,cG,aB hj] at h2;have h7:=(wI h2).2 hj;have h8:=iM e.old _ _ q (aI h2);omega
end Go.Proofs.YtmclohkaiemnaaaGreatDoor
