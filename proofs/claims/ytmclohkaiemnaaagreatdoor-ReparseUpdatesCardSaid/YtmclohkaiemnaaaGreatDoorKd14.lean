/- quillwortref14.Kept: the plain side. No program is in sight. -/
import Derived.Test.YtmclohkaiemnaaaGreatDoorUt14
import Derived.Test.YtmclohkaiemnaaaGreatDoorTo29
set_option linter.unusedVariables false
set_option linter.unusedSimpArgs false
set_option maxRecDepth 100000
set_option maxHeartbeats 8000000
namespace Go.Proofs.YtmclohkaiemnaaaGreatDoor
section
open Go.RowKit
section
variable {F:List Lf} {L:Ps→Ps}
theorem MC (hL:GL F L) {s:Ps} (h:lr F s=true):s.p<(iL F L s).p:=by
  unfold iL;by_cases hc:gy F s=true
  ·rw[aB hc];exact(qB hL (iP hc)).2
  ·rw[aC hc];by_cases hf:lD F s=true
   ·rw[aB hf];have hx:sg F s.p=120:=by unfold lD at hf;simp at hf;exact hf.1
    exact(wL hL (s:={s with deep:=s.deep+1,l:=s.l++[⟨16,s.p,0,s.up⟩],up:=(s.l.length:Int)}) hx).2.1
   ·rw[aC hf,aB h];obtain⟨u,hu⟩:∃u,u=({s with l:=s.l++[⟨5,s.p,0,s.up⟩],up:=(s.l.length:Int)}:Ps):=⟨_,rfl⟩;show s.p<(fV F {s with l:=s.l++[⟨5,s.p,0,s.up⟩],up:=(s.l.length:Int)}).p;rw[←hu];have hup:u.p=s.p:=by rw[hu]
    have hlt:s.p<F.length:=by
      refine lK ?_;unfold eN;rw[h,Bool.or_true]
    have hway:eS F u=true∨iw F u.p=true:=by
      unfold lr at h;simp only[dU,bA] at h;rcases h with h|h|h
      ·exact .inr (by rw[hup];exact Gc h)
      ·exact .inl (by rw[hu];exact h)
      ·exact absurd h hc
    have hus:u.p≤F.length:=by omega
    have h1:=Gd.loop (ib (F:=F)) _ u rfl hus;have he:=LC.eq (ib (F:=F)) u hus;unfold fV;simp only;obtain⟨s1,hs1⟩:∃s1,s1=eV F.length (fun s=>if eS F s=true then (fH F s,true) else if (iw F s.p&&kK (tx F s.p))=true then (eD 6 s,true) else (s,false)) u:=⟨_,rfl⟩;rw[←hs1] at h1 he ⊢;have h1p:=h1.p;have key:u.p<s1.p∨(s1.p=u.p∧iw F u.p=true):=by
      by_cases hr:eS F u=true
      ·rw[aB (by simp only[hr,bP])] at he;simp only[hr,bP] at he;have h2:=mA hr;have h3:=(Gd.loop (ib (F:=F)) _ _ rfl h2.1.N).p;rw[←he] at h3;exact .inl (by omega)
      ·have hw:=hway.resolve_left hr;by_cases ha:kK (tx F u.p)=true
       ·simp only[hr,hw,ha,Bool.and_self,aH,bP,bp] at he;have h2:=fR (F:=F) (k:=6) (fO hw);have h3:=(Gd.loop (ib (F:=F)) _ _ rfl h2.1.N).p;rw[←he] at h3;exact .inl (by have:=h2.2.1;omega)
       ·simp only[hr,hw,ha,cN,aH,bp] at he;exact .inr ⟨by rw[he],hw⟩
    by_cases hw1:iw F s1.p=true
    ·rw[aB hw1];have h2:=fR (F:=F) (k:=7) (fO hw1);have h3:=(qz (F:=F) h2.2.2.N).p
     have:=h2.2.1
     omega
    ·rw[aC hw1];rcases key with k|⟨k1,k2⟩
     ·omega
     ·rw[k1] at hw1;exact absurd k2 hw1
theorem LW (hL:GL F L) {s:Ps} (h:eN F s=true):s.p<(jA F L s).p:=by
  unfold jA;rw[aB h];show s.p<(jo F L {s with l:=s.l++[⟨4,s.p,0,s.up⟩],up:=(s.l.length:Int)}).p;obtain⟨t,ht⟩:∃t,t=({s with l:=s.l++[⟨4,s.p,0,s.up⟩],up:=(s.l.length:Int)}:Ps):=⟨_,rfl⟩;rw[←ht];have htp:t.p=s.p:=by rw[ht]
  have hpb:eN F t=eN F s:=by rw[ht];rfl
  have hs:=lK h;unfold jo;have h1:=fJ (F:=F) (cs:=[33]) (by decide) (s:=t) (by omega);have h2:=nO hL h1.N;have h3:=Gd.loop (jl hL) _ _ rfl h2.N;have h4:=h3.p;have h5:=h2.p;by_cases hc:ef F [33] t=true
  ·have e:eG F [33] t=dY t:=by unfold eG;rw[aB hc]
   rw[e] at h4 h5 ⊢
   have:(dY t).p=t.p+1:=rfl
   omega
  ·have e:eG F [33] t=t:=by unfold eG;rw[aC hc]
   rw[e] at h4 h5 ⊢;have hcb:lr F t=true:=by
     rw[←hpb] at h;unfold eN at h;unfold ef at hc;simp only[dU,bA] at h;rcases h with h|h
     ·exact absurd (by rw[h];decide) hc
     ·exact h
   have:=MC hL hcb
   omega
theorem MQ (hL:GL F L) {s:Ps} (h:eN F s=true):s.p<(eW F L s).p:=by
  have hs:=lK h;have h1:=LW hL h;have h2:=nN hL (s:=s) (by omega);have h3:=Gd.loop (ng hL) _ _ rfl h2.N
  have:=h3.p
  unfold eW;omega
end
theorem Io (G:List Lf) {i:Nat} {x:Nd} (hx:(ei G).l[i]? = some x) (ht:ju (ei G).l i=true):x.fr<(eO G x.fr).p:=by
  obtain⟨r,cs,h1,h2,h3⟩:=xU G;have e:=tw h2 h1;have hm:x.fr∈cs:=by
    rw[←e];exact bZ.2 ⟨i,List.mem_filter.2 ⟨cI.2 (az.1 hx).1,ht⟩,by unfold nj;rw[hx]⟩
  have h4:=h3 _ hm;show (gO x.fr).p<(eh 3 (eW G (lz G)) (gO x.fr)).p;exact MQ (fU G (G.length+1)) (s:={gO x.fr with l:=(gO x.fr).l++[⟨3,(gO x.fr).p,0,(gO x.fr).up⟩],up:=((gO x.fr).l.length:Int)}) h4
theorem pM (G:List Lf) {i:Nat} {x:Nd} (hx:(ei G).l[i]? = some x) (ht:ju (ei G).l i=true):x.tt=(eO G x.fr).p∧x.fr<x.tt∧0<i∧x.fr≤G.length∧x.tt≤G.length:=by
  obtain⟨p,u,y,e1,e2,e3⟩:=DT G ht;obtain rfl:x=y:=Option.some.inj (hx.symm.trans e1);have hi:u<i:=e3.u.2;have hsz:=wR G e3.p;have etx:x.tt=(eO G x.fr).p:=by
    rcases e3.sub.fst with h3|⟨z,h3,_,h5⟩
    ·rw[hx] at h3;cases h3
    ·obtain rfl:x=z:=Option.some.inj (hx.symm.trans h3);rw[h5,e2]
  have:=e3.p
  exact⟨etx,by rw[etx];exact Io G hx ht,by omega,by omega,by rw[etx,e2];exact hsz.2.2⟩
theorem Bo (L:List Nd) (x:Int):∀(K:List Nat) (f:Int→Int),(∀i∈K,0<i)→(0<f x∨∃i∈K,(nj L i:Int)=x∧nj L i<wZ L i)→0<K.foldl (fun f i=>if nj L i<wZ L i then ux f (nj L i:Int) (i:Int) else f) f x
  | [],f,_,h=>by
    rcases h with h|⟨i,hi,_⟩
    ·exact h
    ·cases hi
  | a::K,f,hp,h=>by
    rw[List.foldl_cons];refine Bo L x K _ (fun i hi=>hp i (cj _ hi)) ?_;have ha:=hp a (by simp);by_cases hlt:nj L a<wZ L a
    ·rw[aB hlt];unfold ux;by_cases hx:(nj L a:Int)=x
     ·rw[aB hx];exact .inl (by omega)
     ·rw[aC hx];rcases h with h|⟨i,hi,h1,h2⟩
      ·exact .inl h
      ·rcases bj.1 hi with rfl|hi
       ·exact absurd h1 hx
       ·exact .inr ⟨i,hi,h1,h2⟩
    ·rw[aC hlt];rcases h with h|⟨i,hi,h1,h2⟩
     ·exact .inl h
     ·rcases bj.1 hi with rfl|hi
      ·exact absurd h2 hlt
      ·exact .inr ⟨i,hi,h1,h2⟩
def Lh (L:List Nd) (j:Nat) (z:Int):Prop:=(z = -1∧∀(i:Nat) (x:Nd),L[i]? = some x→ju L i=true→x.fr≠j)∨∃(i:Nat) (x:Nd),L[i]? = some x∧ju L i=true∧x.fr=j∧z=(x.tt:Int)
theorem Hf (F:List Lf) {G:List Lf} {j:Nat} {z:Int} (h:Lh (ei G).l j z):(z = -1∧¬0<(vE F G).f (j:Int))∨(0<(vE F G).f (j:Int)∧z=(((((vE F G).L[((vE F G).f (j:Int)).toNat]?).map Nd.tt).getD 0:Nat):Int)):=by
  have key:∀(i:Nat),i∈jt (ei G).l (ei G).l.length→∃x,(ei G).l[i]? = some x∧ju (ei G).l i=true∧nj (ei G).l i=x.fr∧wZ (ei G).l i=x.tt:=fun i hi=>by
    obtain⟨hr,ht⟩:=List.mem_filter.1 hi;have h5:(ei G).l[i]? = some _:=ax (cI.1 hr);exact⟨_,h5,ht,by unfold nj;rw[h5],by unfold wZ;rw[h5]⟩
  rcases h with ⟨h1,h2⟩|⟨i,x,h1,h2,h3,h4⟩
  ·refine .inl ⟨h1,fun h3=>?_⟩;rcases zD (ei G).l (jt (ei G).l (ei G).l.length) (j:Int) with h0|⟨i,hi,e1,e2⟩
   ·have h3:0<xq (ei G).l (jt (ei G).l (ei G).l.length) (j:Int):=h3;omega
   ·obtain⟨y,e3,e4,e5,_⟩:=key i hi;exact h2 i y e3 e4 (by omega)
  ·obtain⟨r1,r2,r3,_,_⟩:=pM G h1 h2;have hi:i∈jt (ei G).l (ei G).l.length:=List.mem_filter.2 ⟨cI.2 (az.1 h1).1,h2⟩;have hpos:0<xq (ei G).l (jt (ei G).l (ei G).l.length) (j:Int):=by
     refine Bo _ _ _ _ (fun i' hi'=>?_) (.inr ⟨i,hi,?_⟩)
     ·obtain⟨y,e3,e4,_⟩:=key i' hi'
      exact(pM G e3 e4).2.2.1
     ·obtain⟨y,e3,_,e5,e6⟩:=key i hi;obtain rfl:x=y:=Option.some.inj (h1.symm.trans e3);exact⟨by omega,by omega⟩
   refine .inr ⟨hpos,?_⟩;rcases zD (ei G).l (jt (ei G).l (ei G).l.length) (j:Int) with h0|⟨i',hi',e1,e2⟩
   ·omega
   ·obtain⟨y,e3,e4,e5,e6⟩:=key i' hi';obtain⟨q1,_,_⟩:=pM G e3 e4;show z=(((((ei G).l[(xq (ei G).l (jt (ei G).l (ei G).l.length) (j:Int)).toNat]?).map Nd.tt).getD 0:Nat):Int);rw[e2,bJ,e3];show z=(y.tt:Int);rw[h4,r1,q1,h3,show y.fr=j by omega]
theorem Es {G:List Lf} {HD n:Nat} {x:Lf} (hx:G[G.length-1-n]? = some x) (h:n+HD<G.length):(G.drop HD).reverse[n]? = some x:=by
  rw[dR (by rw[aZ];omega),bv,aZ,←hx];congr 1;omega
def KJ (F G:List Lf) (p:Nat):Nat:=(ly (vE F G) p).toList.length
theorem Oo {F G:List Lf} {p:Nat} {z:Int} (h:Lh (ei G).l p z) (h0:0≤z) (h1:z+2≤(mT G F:Int)):KJ F G p=1:=by
  rcases Hf F h with ⟨e,_⟩|⟨e1,e2⟩
  ·omega
  ·unfold KJ ly;rw[aB ⟨e1,by show _≤mT G F;omega⟩];rfl
theorem KG {F G:List Lf} {p:Nat} {z:Int} (h:Lh (ei G).l p z) (h0:¬(0≤z∧z+2≤(mT G F:Int))):¬(0<(vE F G).f (p:Int)∧((((vE F G).L[((vE F G).f (p:Int)).toNat]?).map Nd.tt).getD 0:Nat)+2≤(vE F G).hd):=fun⟨e,e'⟩=>by
  rcases Hf F h with ⟨_,e1⟩|⟨e1,e2⟩
  ·exact e1 e
  ·have:_≤mT G F:=e'
   omega
theorem On {F G:List Lf} {p:Nat} {z:Int} (h:Lh (ei G).l p z) (h0:¬(0≤z∧z+2≤(mT G F:Int))) (h1:p+zE (G.drop (mT G F)) (F.drop (mT G F))<F.length):KJ F G p=0:=by
  unfold KJ ly;rw[aC (KG h h0),aB (show p+(vE F G).tl<(vE F G).F.length from h1)];rfl
theorem Om {F G:List Lf} {p j:Nat} {z y:Int} (h:Lh (ei G).l p z) (h0:¬(0≤z∧z+2≤(mT G F:Int))) (h1:¬p+zE (G.drop (mT G F)) (F.drop (mT G F))<F.length) (hj:(j:Int)=(p:Int)-((F.length:Int)-(G.length:Int))) (h2:Lh (ei G).l j y):KJ F G p=if 0≤y then 1 else 0:=by
  unfold KJ ly;rw[aC (KG h h0),aC (show ¬p+(vE F G).tl<(vE F G).F.length from h1)];have e:(p:Int)-(vE F G).mo=(j:Int):=hj.symm;rw[e];rcases Hf F h2 with ⟨e1,e2⟩|⟨e1,e2⟩
  ·rw[aC e2,aC (by omega)];rfl
  ·rw[aB e1,aB (by omega)];rfl
def MU (F G:List Lf) (k:Nat):Nat:=qV (vE F G) ((jt (ei F).l k).map (nj (ei F).l))
theorem FQ (F G:List Lf) {k:Nat} {x:Nd} (hx:(ei F).l[k]? = some x):MU F G (k+1)=MU F G k+(if ju (ei F).l k=true then KJ F G x.fr else 0):=by
  unfold MU;have h:=rI (ju (ei F).l) k;unfold jt;rw[h,bG,Bp];by_cases ht:ju (ei F).l k=true
  ·rw[aB ht,aB ht];congr 1;unfold qV KJ;have e:nj (ei F).l k=x.fr:=by unfold nj;rw[hx]
   simp[e]
  ·rw[aC ht,aC ht];rfl
theorem DY (C:Uc):∀cs:List Nat,qV C cs≤cs.length
  | []=>au _
  | p::cs=>by
    have h:=DY C cs;have h1:(ly C p).toList.length≤1:=by cases ly C p<;>simp
    have h2:qV C (p::cs)=(ly C p).toList.length+qV C cs:=by unfold qV;simp
    rw[h2,aL];omega
theorem Mf (F G:List Lf) (k:Nat):MU F G k≤k:=by
  have h:=DY (vE F G) ((jt (ei F).l k).map (nj (ei F).l));have h1:=yQ (ju (ei F).l) k;rw[bE] at h;exact aA h h1
end
end Go.Proofs.YtmclohkaiemnaaaGreatDoor
set_option linter.unusedVariables false
set_option linter.unusedSimpArgs false
set_option maxRecDepth 100000
set_option maxHeartbeats 8000000
namespace Go.Proofs.YtmclohkaiemnaaaGreatDoor
open Go.RowKit
theorem Ex (x y:Lf) (w:World):jJ 27 #[Hz x,Hz y] w (.bool (Cn x y)):=by
  obtain⟨xk,xt,xf,xo⟩:=x;obtain⟨yk,yt,yf,yo⟩:=y;unfold Hz Cn;simp only;have key:∀b:Bool,((xk==yk&&xt==yt)=b)→jJ 27 #[.agg #[.int .i64 xk,.string ⟨xt.toArray⟩,.int .i64 xf,.int .i64 xo],.agg #[.int .i64 yk,.string ⟨yt.toArray⟩,.int .i64 yf,.int .i64 yo]] w (.bool b):=fun b hb=>by
    by_cases h1:xk=yk
    ·subst h1;by_cases h2:xt=yt
     ·subst h2;obtain rfl:b=true:=by rw[←hb];simp
      clear hb;go_enter Tryz.func27,Tryz.ntmps27;go_wp2;go_ret;exact⟨rfl,((ay _ w).alloc (au _) _).alloc (by simp) _⟩
     ·obtain rfl:b=false:=by rw[←hb];simp[h2]
      have t1:(xt==yt)=false:=aN h2;clear hb;go_enter Tryz.func27,Tryz.ntmps27;go_wp2;go_ret;exact⟨rfl,((ay _ w).alloc (au _) _).alloc (by simp) _⟩
    ·obtain rfl:b=false:=by rw[←hb];simp[h1]
     have t1:(xk==yk)=false:=aN h1;clear hb;go_enter Tryz.func27,Tryz.ntmps27;go_wp2;go_ret;exact⟨rfl,((ay _ w).alloc (au _) _).alloc (by simp) _⟩
  exact key _ rfl
theorem BA (L:List Nd) (j c:Nat) (A:Option Addr) (w:World) (hL:L.length≤100000) (hup:∀(i:Nat) (x:Nd),L[i]? = some x→x.up<(L.length:Int)) (hr:Rd w w.heap.size 4 (.slice A L.length c) L.length (fm L)) :
    Calls Tryz.prog 29 #[.slice A L.length c,.int .i64 (j:Int)] w fun e w'=>∃z:Int,e=.returned (.int .i64 z)∧Lh L j z∧Below w.heap.size w w':=by
  have H:=ac (ae hr hup);clear hr hup;go_enter Tryz.func29,Tryz.ntmps29;go_wp2_with fail;go_loopw [5] (fun i wr=>∃k:Nat,k≤L.length∧i=.int .i64 k∧(∀(i:Nat) (x:Nd),i<k→L[i]? = some x→ju L i=true→x.fr≠j)∧Below w.heap.size w wr) (fun i _=>L.length-(intOf i).toNat)
  case atStart=>exact⟨0,bq _,rfl,fun i x h=>by omega,ay _ _⟩
  case round=>
    obtain⟨k,hk,rfl,hno,hb⟩:=hrel;by_cases hlt:k<L.length
    ·have u1:(k:Int)<(L.length:Int):=by omega
     have u2:(0:Int)≤(k:Int):=by omega
     obtain⟨x,hx⟩:∃x,L[k]? = some x:=⟨_,ax hlt⟩;have hrr:=(H.out.1.keep hb (au _)).mono hb.size;have ct:=Ep L k c A x wr hL hx (H.out.2 k x hx) hrr;obtain⟨g,o,rfl,_,hc⟩:=fW gu hrr hx rfl;have y1:wr.cell? ⟨g,o+k*4+1,none⟩=some (.int .i64 (x.fr:Int)):=hc 1 _ rfl;have y2:wr.cell? ⟨g,o+k*4+2,none⟩=some (.int .i64 (x.tt:Int)):=hc 2 _ rfl;obtain⟨T,hT⟩:∃T,T=ju L k:=⟨_,rfl⟩;rw[←hT] at ct;have HK:=ac (ae ct (ae hno (ae hb (ae hx hT))));clear ct hno hb hx hT hrr hc
     cases T
     ·go_wp2_with (first
        | (go_at_call 28;with_reducible refine(HK.out.1).mono ?_
           rintro e w2 ⟨rfl,n,rfl⟩)
        | fail)
      refine⟨⟨k+1,by omega,by go_num,fun i z h1 h2 h3=>?_,by first|exact HK.out.2.2.1|exact dX HK.out.2.2.1 _⟩,by simp[intOf];omega⟩;rcases bC i k with h|h
      ·exact HK.out.2.1 i z h h2 h3
      ·obtain rfl:i=k:=by omega
       rw[←HK.out.2.2.2.2] at h3
       cases h3
     ·by_cases hf:x.fr=j
      ·have t1:((x.fr:Int)==(j:Int))=true:=by rw[bA];omega
       have HF:=ac hf;clear hf
       go_wp2_with (first
         | (go_at_call 28;with_reducible refine(HK.out.1).mono ?_
            rintro e w2 ⟨rfl,n,rfl⟩)
         | fail)
       try go_quiet (fail)
       try go_wp2_with fail
       go_ret;exact⟨_,rfl,.inr ⟨k,x,HK.out.2.2.2.1,HK.out.2.2.2.2.symm,HF.out,rfl⟩,by first|exact HK.out.2.2.1|exact dX HK.out.2.2.1 _|exact dX (dX HK.out.2.2.1 _) _⟩
      ·have t1:((x.fr:Int)==(j:Int))=false:=by rw[aK];omega
       have HF:=ac hf;clear hf
       go_wp2_with (first
         | (go_at_call 28;with_reducible refine(HK.out.1).mono ?_
            rintro e w2 ⟨rfl,n,rfl⟩)
         | fail)
       try go_quiet (fail)
       try go_wp2_with fail
       refine⟨⟨k+1,by omega,by go_num,fun i z h1 h2 h3=>?_,by first|exact HK.out.2.2.1|exact dX HK.out.2.2.1 _|exact dX (dX HK.out.2.2.1 _) _⟩,by simp[intOf];omega⟩;rcases bC i k with h|h
       ·exact HK.out.2.1 i z h h2 h3
       ·obtain rfl:i=k:=by omega
        obtain rfl:x=z:=Option.some.inj (HK.out.2.2.2.1.symm.trans h2);exact HF.out
    ·obtain rfl:k=L.length:=by omega
     have HN:=ac (ae hno hb);clear hno hb;go_wp2_with fail;go_ret;exact⟨-1,rfl,.inl ⟨rfl,fun i x h=>HN.out.1 i x (az.1 h).1 h⟩,HN.out.2⟩
theorem Nl (G:List Lf) (hl:(ei G).l.length≤100000) (j:Nat):∃z:Int,Lh (ei G).l j z∧(-1≤z∧z≤(G.length:Int))∧∀(A:Option Addr) (c:Nat) (W:World),Rd W W.heap.size 4 (.slice A (ei G).l.length c) (ei G).l.length (fm (ei G).l) →
    jJ 29 #[.slice A (ei G).l.length c,.int .i64 (j:Int)] W (.int .i64 z):=by
  have hup:∀(i:Nat) (x:Nd),(ei G).l[i]? = some x→x.up<((ei G).l.length:Int):=fun i x hx=>by
    have h1:=(pW G i x hx).2.2.1;have h2:=(az.1 hx).1;omega
  by_cases h:∃(i:Nat) (x:Nd),(ei G).l[i]? = some x∧ju (ei G).l i=true∧x.fr=j
  ·obtain⟨i,x,h1,h2,h3⟩:=h;obtain⟨r1,_,_,_,r5⟩:=pM G h1 h2;refine⟨x.tt,.inr ⟨i,x,h1,h2,h3,rfl⟩,⟨by omega,by omega⟩,fun A c W hr=>(BA _ j c A W hl hup hr).mono ?_⟩;rintro e w' ⟨z,rfl,hz,hb⟩;rcases hz with ⟨_,hno⟩|⟨i',y,e1,e2,e3,rfl⟩
   ·exact absurd h3 (hno i x h1 h2)
   ·have q1:=(pM G e1 e2).1;rw[show (y.tt:Int)=(x.tt:Int) by rw[q1,r1,e3,h3]];exact⟨rfl,hb⟩
  ·refine⟨-1,.inl ⟨rfl,fun i x h1 h2 h3=>h ⟨i,x,h1,h2,h3⟩⟩,⟨by omega,by omega⟩,fun A c W hr=>(BA _ j c A W hl hup hr).mono ?_⟩;rintro e w' ⟨z,rfl,hz,hb⟩;rcases hz with ⟨rfl,_⟩|⟨i',y,e1,e2,e3,_⟩
   ·exact⟨rfl,hb⟩
   ·exact absurd ⟨i',y,e1,e2,e3⟩ h
def tE (x:Lf):Int:=x.to
theorem qo {w:World} {B n c:Nat} {A:Option Addr} {L:List Lf} {i:Nat} {x:Lf} (hr:Rd w B 4 (.slice A n c) n (gv L)) (hx:L[i]? = some x) (hn:n=L.length):∃g o,A=some ⟨g,o,none⟩∧w.cell? ⟨g,o+i*4,none⟩=some (.int .i64 x.kd)∧w.cell? ⟨g,o+i*4+1,none⟩=some (.string ⟨x.tx.toArray⟩)∧w.cell? ⟨g,o+i*4+2,none⟩=some (.int .i64 x.fr)∧w.cell? ⟨g,o+i*4+3,none⟩=some (.int .i64 (tE x)):=gZ hr hx hn
theorem xO (x y:Lf) (w:World):jJ 27 #[.agg #[.int .i64 x.kd,.string ⟨x.tx.toArray⟩,.int .i64 x.fr,.int .i64 (tE x)],.agg #[.int .i64 y.kd,.string ⟨y.tx.toArray⟩,.int .i64 y.fr,.int .i64 (tE y)]] w (.bool (Cn x y)):=Ex x y w
end Go.Proofs.YtmclohkaiemnaaaGreatDoor
