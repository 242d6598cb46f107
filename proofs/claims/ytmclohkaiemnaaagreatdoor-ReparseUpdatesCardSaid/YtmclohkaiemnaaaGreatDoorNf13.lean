/- The reference's parser in memory: the box of a Now, the leaves that it reads and the nodes that it has made. PRINTED by gen_nk13.py out of XMk13. -/
import Derived.Test.YtmclohkaiemnaaaGreatDoorMb13
import Derived.Test.YtmclohkaiemnaaaGreatDoorRh13
import Derived.Test.YtmclohkaiemnaaaGreatDoorPm13
set_option linter.unusedVariables false
set_option linter.unusedSimpArgs false
set_option maxRecDepth 100000
set_option maxHeartbeats 8000000
namespace Go.Proofs.YtmclohkaiemnaaaGreatDoor
open Go.RowKit
variable {cs:Array Value} {F:List Lf} {xs:List Value} {g n ga N B:Nat} {x:Nd} {s t:Ps} {fv lv v' x0 x1 x2 x3 x4 x5:Value} {W a b c W' w W1 w':World} (k i:Nat) (u:Int) (f:Ps→Ps)
def ti (F:List Lf):List UInt8:=F.map sA
structure Fn (g:Nat) (W W':World):Prop where
  hb:Below g W W'
  kt:KT [56,52] W W'
theorem Fn.refl (g:Nat) (W:World):Fn g W W:=⟨ay _ _,KT.refl _ _⟩
theorem Fn.trans (h:Fn g a b) (k:Fn g b c):Fn g a c:=⟨h.hb.trans k.hb,h.kt.trans k.kt⟩
theorem Fn.of (hb:Below W.heap.size W W') (hg:g≤W.heap.size):Fn g W W':=⟨hb.mono hg,KT.of_below hb⟩
structure Nk (g:Nat) (fv:Value) (F:List Lf) (s:Ps) (W:World):Prop where
  w:∃lv,Bk W g 56 #[fv,.string ⟨(ti F).toArray⟩,lv,.int .i64 (s.p:Int),.int .i64 s.up,.int .i64 (s.deep:Int)]∧W.ownsRow g 52 4 lv s.l.length (fm s.l)
  f:Rd W g 4 fv F.length (gv F)
theorem Nk.lt (h:Nk g fv F s W):g<W.heap.size:=by
  obtain⟨lv,h1,_⟩:=h.w;exact h1.lt
theorem Nk.next (h:Nk g fv F s W) (hb:Below W.heap.size W W'):Nk g fv F s W'∧Fn g W W':=by
  obtain⟨lv,h1,h2⟩:=h.w;exact⟨⟨⟨lv,h1.below hb h1.lt,eC h2 hb⟩,h.f.keep (hb.mono (aM h1.lt)) (au _)⟩,.of hb (aM h1.lt)⟩
theorem qC (h:Bk W g 56 cs) (i:Nat) (v:Value):Fn g W (W.setCell ⟨g,i,none⟩ v):=
  ⟨K7 (ay _ _) (eJ (fA W (some g)) i v) (aM h.lt) (au _),(KT.refl _ W).setCell h (by decide) i v⟩
theorem wi (h:Bk W g 56 cs) (k:W.ownsRow g 52 4 lv n xs) (i:Nat) (v:Value):(W.setCell ⟨g,i,none⟩ v).ownsRow g 52 4 lv n xs:=
  fh k (eP k h (by decide)) v
theorem Bv (h:Bk W g 56 cs) (k:Rd W g 4 fv n xs) (i:Nat) (v:Value):Rd (W.setCell ⟨g,i,none⟩ v) g 4 fv n xs:=
  k.keep (qC h i v).hb (au _)
theorem Nk.setP (h:Nk g fv F s W) (p:Nat):Nk g fv F {s with p:=p} (W.setCell ⟨g,3,none⟩ (.int .i64 (p:Int)))∧Fn g W (W.setCell ⟨g,3,none⟩ (.int .i64 (p:Int))):=by
  obtain⟨lv,h1,h2⟩:=h.w;exact⟨⟨⟨lv,h1.set 3 _,wi h1 h2 _ _⟩,Bv h1 h.f _ _⟩,qC h1 _ _⟩
theorem Nk.setUp (h:Nk g fv F s W) (u:Int):Nk g fv F {s with up:=u} (W.setCell ⟨g,4,none⟩ (.int .i64 u))∧Fn g W (W.setCell ⟨g,4,none⟩ (.int .i64 u)):=by
  obtain⟨lv,h1,h2⟩:=h.w;exact⟨⟨⟨lv,h1.set 4 _,wi h1 h2 _ _⟩,Bv h1 h.f _ _⟩,qC h1 _ _⟩
theorem Nk.setDeep (h:Nk g fv F s W) (d:Nat):Nk g fv F {s with deep:=d} (W.setCell ⟨g,5,none⟩ (.int .i64 (d:Int)))∧Fn g W (W.setCell ⟨g,5,none⟩ (.int .i64 (d:Int))):=by
  obtain⟨lv,h1,h2⟩:=h.w;exact⟨⟨⟨lv,h1.set 5 _,wi h1 h2 _ _⟩,Bv h1 h.f _ _⟩,qC h1 _ _⟩
theorem Nk.setTo {c:Nat} (h1:Bk W g 56 #[fv,.string ⟨(ti F).toArray⟩,.slice (some ⟨ga,0,none⟩) n c,.int .i64 (s.p:Int),.int .i64 s.up,.int .i64 (s.deep:Int)]) (h2:W.ownsRow g 52 4 (.slice (some ⟨ga,0,none⟩) n c) s.l.length (fm s.l)) (hf:Rd W g 4 fv F.length (gv F)) (i t:Nat) (hi:i<s.l.length) :
    Nk g fv F {s with l:=ik s.l i t} (W.setCell ⟨ga,i*4+2,none⟩ (.int .i64 (t:Int)))∧Fn g W (W.setCell ⟨ga,i*4+2,none⟩ (.int .i64 (t:Int))):=by
  have hne:ga≠g:=fun e=>eP h2 h1 (by decide) (by rw[e];rfl)
  obtain⟨e1,_,_,e4,e5⟩:=iu h2;subst e1;have hh:=kY h2;have hs:=ox h2 (i*4+2) (.int .i64 (t:Int));rw[sO _ _ _ hi] at hs;have hg:=eJ (fA W (some ga)) (i*4+2) (.int .i64 (t:Int))
  refine⟨⟨⟨_,h1.grown hg (fun e=>hne (by injection e with e;exact e.symm)),by show World.ownsRow _ _ _ _ _ (ik _ _ _).length _;rw[ij];exact hs⟩,hf.keep (K7 (ay _ _) hg (aM h1.lt) e4) (au _)⟩,
    ⟨K7 (ay _ _) hg (aM h1.lt) e4,(KT.refl _ W).setCell hh (by decide) _ _⟩⟩
theorem Nk.push (h1:Bk W g 56 #[fv,.string ⟨(ti F).toArray⟩,lv,.int .i64 (s.p:Int),.int .i64 s.up,.int .i64 (s.deep:Int)]) (h2:W.ownsRow g 52 4 lv s.l.length (fm s.l)) (hf:Rd W g 4 fv F.length (gv F)) (ho:W'.ownsRow g 52 4 v' (s.l.length+1) (fm s.l++fm [x])) (hg:W.grownBy W' lv.ownBlock) :
    Nk g fv F {s with l:=s.l++[x]} (W'.setCell ⟨g,2,none⟩ v')∧Fn g W (W'.setCell ⟨g,2,none⟩ v'):=by
  have k1:Bk W' g 56 _:=h1.grown hg (fun e=>eP h2 h1 (by decide) e.symm);have kfr:Fn g W W':=⟨dV (ay _ _) hg (aM h1.lt) (fun k hk=>(h2.lt k hk).1),(KT.refl _ W).grown hg (fun k hk=>by obtain⟨cs,t,fr,e1,e2⟩:=jR h2 k hk;exact⟨cs,t,fr,e1,by rw[e2];decide⟩)⟩;have kf:Rd W' g 4 fv F.length (gv F):=hf.keep kfr.hb (au _);rw[←mj] at ho;refine⟨⟨⟨v',k1.set 2 v',?_⟩,Bv k1 kf _ _⟩,kfr.trans (qC k1 _ _)⟩;show World.ownsRow _ _ _ _ _ (s.l++[x]).length _;rw[aD];exact wi k1 ho _ _
theorem Bk.sixn {t:TypeId} (h:Bk w g t #[x0,x1,x2,x3,x4,x5]):w.cell? ⟨g,0,none⟩=some x0∧w.cell? ⟨g,1,none⟩=some x1∧w.cell? ⟨g,2,none⟩=some x2∧w.cell? ⟨g,3,none⟩=some x3∧w.cell? ⟨g,4,none⟩=some x4∧w.cell? ⟨g,5,none⟩=some x5:=
  ⟨h.cell 0,h.cell 1,h.cell 2,h.cell 3,h.cell 4,h.cell 5⟩
theorem vP {p:Nat} (h:p<F.length):(ti F)[p]? = some (sg F p):=by
  unfold ti sg;rw[aV,ax h];rfl
theorem pN (F:List Lf):(ti F).length=F.length:=by unfold ti;rw[bE]
structure Ny (g:Nat) (fv:Value) (F:List Lf) (W:World) (t:Ps) (w':World):Prop where
  m:Nk g fv F t w'
  f:Fn g W w'
abbrev vA (f:FuncId) (g:Nat) (fv:Value) (F:List Lf) (W:World) (r:Value) (t:Ps):Prop:=Calls Tryz.prog f #[.pointer (some ⟨g,0,none⟩)] W fun e w'=>e=.returned r∧Ny g fv F W t w'
theorem Ny.of {W:World} (h:Nk g fv F t W1∧Fn g w' W1):Ny g fv F w' t W1:=⟨h.1,h.2⟩
theorem Ny.start (h:Nk g fv F s W):Ny g fv F W s W:=⟨h,Fn.refl _ _⟩
theorem Ny.next (h:Ny g fv F W s W1) (hb:Below W1.heap.size W1 w'):Ny g fv F W s w':=⟨(h.m.next hb).1,h.f.trans (h.m.next hb).2⟩
theorem Ny.then (h:Ny g fv F W s W1) (k:Ny g fv F W1 t w'):Ny g fv F W t w':=⟨k.m,h.f.trans k.f⟩
theorem Ny.drew (h:Ny g fv F W s W1) (n:Nat):Ny g fv F W s (W1.drewN n):=h.next (dX (ay _ _) n)
theorem Ny.setP (h:Ny g fv F W s W1) (p:Nat):Ny g fv F W {s with p:=p} (W1.setCell ⟨g,3,none⟩ (.int .i64 (p:Int))):=⟨(h.m.setP p).1,h.f.trans (h.m.setP p).2⟩
theorem Ny.setUp (h:Ny g fv F W s W1) (u:Int):Ny g fv F W {s with up:=u} (W1.setCell ⟨g,4,none⟩ (.int .i64 u)):=⟨(h.m.setUp u).1,h.f.trans (h.m.setUp u).2⟩
theorem Ny.setDeep (h:Ny g fv F W s W1) (d:Nat):Ny g fv F W {s with deep:=d} (W1.setCell ⟨g,5,none⟩ (.int .i64 (d:Int))):=⟨(h.m.setDeep d).1,h.f.trans (h.m.setDeep d).2⟩
theorem Nk.cells (h:Nk g fv F s W):(W.cell? ⟨g,0,none⟩=some fv∧W.cell? ⟨g,1,none⟩=some (.string ⟨(ti F).toArray⟩)∧W.cell? ⟨g,3,none⟩=some (.int .i64 (s.p:Int))∧W.cell? ⟨g,4,none⟩=some (.int .i64 s.up)∧W.cell? ⟨g,5,none⟩=some (.int .i64 (s.deep:Int))) ∧
    W.frozen? ⟨g,2,none⟩=false∧W.frozen? ⟨g,3,none⟩=false∧W.frozen? ⟨g,4,none⟩=false∧W.frozen? ⟨g,5,none⟩=false:=by
  obtain⟨lv,hb,_⟩:=h.w;obtain⟨c0,c1,_,c3,c4,c5⟩:=hb.sixn;exact⟨⟨c0,c1,c3,c4,c5⟩,hb.frozen _,hb.frozen _,hb.frozen _,hb.frozen _⟩
theorem JL (c:UInt8) (cs:List UInt8):vi c cs=cs.contains c:=by
  unfold vi
  induction cs with
  | nil=>rfl
  | cons d cs ih=>
    rw[List.any_cons,List.contains_cons,ih];congr 1;by_cases h:c=d
    ·subst h;simp
    ·rw[aN h];exact aE (fun e=>h (dE.1 e.symm))
theorem Fv (hF:FB F) (h:Nk g fv F s W) (hs:s.p≤F.length) (cs:List UInt8) (hcs:cs.contains 0=false) (hcl:cs.length≤1000) :
    Ob 22 #[.pointer (some ⟨g,0,none⟩),.string ⟨cs.toArray⟩] W (.bool (ef F cs s)):=by
  obtain⟨⟨c0,c1,c3,c4,c5⟩,_⟩:=h.cells;have hn:=hF.n;have hsl:=pN F;have u0:(0:Int)≤(s.p:Int):=by omega
  by_cases hp:s.p<F.length
  ·obtain⟨c,hc⟩:∃c,c=sg F s.p:=⟨_,rfl⟩;obtain⟨b,hb⟩:∃b,b=ef F cs s:=⟨_,rfl⟩;have hd:=vP hp;rw[←hc] at hd;have c2:∀W1,ls 44 #[.int .u8 (c.toNat:Int),.string ⟨cs.toArray⟩] W1 (.bool b):=fun W1=>by
     rw[hb];unfold ef;rw[←hc,←JL];exact Mh c cs W1 (by omega)
   rw[←hb];obtain⟨T,hT⟩:∃T,T=ti F:=⟨_,rfl⟩;rw[←hT] at c1 hd hsl;obtain⟨g1,g2⟩:=az.1 hd;have g3:(ByteArray.mk T.toArray)[s.p]'(show s.p<T.length from g1)=c:=g2;have t1:(s.p:Int)<(T.length:Int):=by omega
   have t2:decide ((s.p:Int)<(T.length:Int))=true:=aG t1;have t3:decide (s.p<T.length)=true:=aG g1;have HC:=ac c2;clear c2 hc hb g2 hd hT h c0 c4 c5;go_enter Tryz.func22,Tryz.ntmps22;go_wp2
   go_quiet (first
     | (go_at_call 44;refine(HC.out _).mono ?_;rintro e w' ⟨rfl,rfl⟩;exact⟨rfl,_,rfl⟩))
   go_wp2;go_ret;exact⟨rfl,_,rfl⟩
  ·have h0:ef F cs s=false:=by unfold ef sg;rw[bI (by omega)];exact hcs
   rw[h0];obtain⟨T,hT⟩:∃T,T=ti F:=⟨_,rfl⟩;rw[←hT] at c1 hsl;have t2:decide ((s.p:Int)<(T.length:Int))=false:=aE (by omega);have t3:decide (s.p<T.length)=false:=aE (by omega);clear hT h c0 c4 c5;go_enter Tryz.func22,Tryz.ntmps22;go_wp2;go_quiet (fail);go_wp2;go_ret;exact⟨rfl,_,rfl⟩
def ie (k:Nat):Bool:=decide (9≤k)&&decide (k≤14)||k==16
def MV (k:Nat) (s:Ps):Ps:=if ie k=true then {fG k s with deep:=s.deep+1} else fG k s
theorem BQ (W:World):AZ 43 #[.int .i64 (k:Int)] W (.bool (ie k)):=by
  obtain⟨z,hz⟩:∃z:Int,z=(k:Int):=⟨_,rfl⟩;rw[←hz];have key:(k<9∨(9≤k∧k≤14))∨k=16∨(14<k∧k≠16):=by omega
  rcases key with (h|⟨h1,h2⟩)|h|⟨h1,h2⟩
  case' inl.inl=>
    have e:ie k=false:=by unfold ie;rw[aE (by omega),aN (by omega)];rfl
    have t1:decide (9≤z)=false:=aE (by omega);have t3:(z==16)=false:=aN (by omega)
  case' inl.inr=>
    have e:ie k=true:=by unfold ie;rw[aG h1,aG h2];rfl
    have t1:decide (9≤z)=true:=aG (by omega);have t2:decide (z≤14)=true:=aG (by omega)
  case' inr.inl=>
    have e:ie k=true:=by subst h;rfl
    have t1:decide (9≤z)=true:=aG (by omega);have t2:decide (z≤14)=false:=aE (by omega);have t3:(z==16)=true:=by rw[hz,h];rfl
  case' inr.inr=>
    have e:ie k=false:=by unfold ie;rw[aE (p:=k≤14) (by omega),aN h2,Bool.and_false];rfl
    have t1:decide (9≤z)=true:=aG (by omega);have t2:decide (z≤14)=false:=aE (by omega);have t3:(z==16)=false:=aN (by omega)
  all_goals (
    rw[e];clear e hz;go_enter Tryz.func43,Tryz.ntmps43;go_wp2;go_ret;exact⟨rfl,rfl⟩)
theorem Cj (h:Nk g fv F s W) (hl:s.l.length≤50000) (hk:k≤18) (hd:s.deep≤1000) :
    Calls Tryz.prog 21 #[.pointer (some ⟨g,0,none⟩),.int .i64 (k:Int)] W fun e w'=>e=.returned (.int .i64 s.up)∧Ny g fv F W (MV k s) w':=by
  obtain⟨i0,hi0,hz0,hz1,hz2⟩:=cL Tryz.infoNode;obtain⟨lv,hb,ho⟩:=h.w;obtain⟨A,n,c,rfl⟩:=eA ho;obtain rfl:=ff ho;obtain⟨c0,c1,c2,c3,c4,c5⟩:=hb.sixn;have f2:=hb.frozen 2;have hne:(Value.slice A s.l.length c).ownBlock≠some g:=eP ho hb (by decide);have g1:=hb.lt;have H2:=ac (ae hb (ae ho h.f));have HN:=ac (BQ k);clear h hb ho;go_enter Tryz.func21,Tryz.ntmps21;go_wp2
  go_region_law (first
    | (refine gr rfl (.tmp 14) (.tmp 22) 25 rfl g 52 i0 _ 4 32 Tryz.underlying25 hi0 hz0 hz1 hz2 rfl (by decide) (.slice A s.l.length c) s.l.length (fm s.l) (by simp[Act.eval]) (H2.out.2.1.alloc _) (.slice (some ⟨W.heap.size,0,none⟩) 1 1) 1 (W.heap.size+1) (fm [⟨k,s.p,0,s.up⟩]) (by simp[Act.eval]) (Rd.drew (iK W (fm [⟨k,s.p,0,s.up⟩]) 52 4 1 rfl (by omega))) (rp _) (by unfold maxLen;omega) (by omega) (by simp;omega) ?_;intro v1 w1 hown1 hg1 hv1;obtain⟨gn,cn,rfl⟩:=gS hown1;have kk:=(H2.out.1.alloc (.cells #[.int .i64 (k:Int),.int .i64 (s.p:Int),.int .i64 0,.int .i64 s.up] 52)).drew.grown hg1 (fun e=>hne e.symm);have y0:=kk.cell 2;have y1:=kk.frozen 2;have H3:=ac (ae hown1 hg1);clear hown1 hg1 hv1 kk))
  all_goals (
    have hbA:Below W.heap.size W (W.alloc (.cells #[.int .i64 (k:Int),.int .i64 (s.p:Int),.int .i64 0,.int .i64 s.up] 52)).drew:=((ay _ W).alloc (au _) _).drew;have hp:=Nk.push (x:=⟨k,s.p,0,s.up⟩) (H2.out.1.below hbA g1) (eC H2.out.2.1 hbA) (H2.out.2.2.keep (hbA.mono (aM g1)) (au _)) H3.out.1 H3.out.2;have H4:=ac (Ny.mk (W:=W) hp.1 (((Ny.start (Nk.mk ⟨_,H2.out.1,H2.out.2.1⟩ H2.out.2.2)).next hbA).f.trans hp.2));clear y0 y1 hp hbA H3 c0 c1 c2 c3 c4 c5 f2;generalize w1.setCell {block:=g,off:=2} (Value.slice (some {block:=gn,off:=0}) (s.l.length+1) cn)=W3 at *;obtain⟨lv2,kb,ko⟩:=H4.out.m.w;obtain⟨A2,n2,c2,rfl⟩:=eA ko;have hn2:=ff ko;replace hn2:n2=s.l.length+1:=by rw[hn2];show (s.l++[_]).length=_;rw[aD];rfl
    subst hn2;obtain⟨d0,d1,d2,d3,d4,d5⟩:=kb.sixn;have e4:=kb.frozen 4;have e5:=kb.frozen 5;clear kb ko;have v1:IntKind.i64.wrap (((s.l.length+1:Nat):Int)-1)=(s.l.length:Int):=by rw[aO _ (by omega)];omega
    have v2:IntKind.i64.wrap ((s.deep:Int)+1)=((s.deep+1:Nat):Int):=by rw[aO _ (by omega)];omega)
  all_goals (
    have H5:=ac (H4.out.setUp (s.l.length:Int))
    cases hb:ie k)
  all_goals (
    have HB:=ac (ae hb (fun W=>hb▸HN.out W));clear hb)
  all_goals (
    replace d4:W3.cell? ⟨g,4,none⟩=some (.int .i64 s.up):=d4;replace d5:W3.cell? ⟨g,5,none⟩=some (.int .i64 (s.deep:Int)):=d5;have v3:(s.l.length:Int)+1-1=(s.l.length:Int):=by omega
    have hg3:=(H4.out.m).lt;go_wp2_with (
      (go_at_call 43;with_reducible refine(HB.out.2 _).mono ?_
       rintro e w5 ⟨rfl,rfl⟩))
    go_ret;refine⟨rfl,?_⟩;unfold MV;rw[HB.out.1]
    first
      | exact H5.out
      | exact H5.out.setDeep (s.deep+1))
theorem yu:∀(l:List Nd) (i t:Nat) (x:Nd),l[i]? = some x→(ik l i t)[i]? = some {x with tt:=t}
  | [],i,t,x,h=>by simp at h
  | n::r,0,t,x,h=>by
    have e:n=x:=by simpa using h
    subst e;rfl
  | n::r,i+1,t,x,h=>yu r i t x (by simpa using h)
def De (k i:Nat) (u:Int) (t:Ps):Ps:={t with l:=ik t.l i t.p,up:=u,deep:=if ie k=true then t.deep-1 else t.deep}
theorem K6 (x:Nd) (h:Nk g fv F t W) (hup:t.up=(i:Int)) (hx:t.l[i]? = some x) (hl:t.l.length≤100000) (hd1:ie x.kd=true→1≤t.deep) (hd:t.deep≤1000) :
    Calls Tryz.prog 26 #[.pointer (some ⟨g,0,none⟩),.int .i64 u] W fun e w'=>e=.returned (.tuple #[])∧Ny g fv F W (De x.kd i u t) w':=by
  have hi:i<t.l.length:=(az.1 hx).1;obtain⟨m,hm⟩:∃m,t.l.length=m+1:=⟨t.l.length-1,by omega⟩;obtain⟨lv,kb,ko⟩:=h.w;have kr:=h.f;obtain⟨ga,ca,rfl⟩:∃ga ca,lv=.slice (some ⟨ga,0,none⟩) t.l.length ca:=by
    rw[hm] at ko;obtain⟨ga,ca,e⟩:=gS ko;exact⟨ga,ca,by rw[hm];exact e⟩
  have hT:=Nk.setTo kb ko kr i t.p hi;obtain⟨d0,d1,d2,d3,d4,d5⟩:=kb.sixn;rw[hup] at d4;have x1:=fZ ko (i*4+2);obtain⟨v0,hv0⟩:∃v0,(fm t.l)[i*4+2]? = some v0:=⟨_,ax (by rw[lg];omega)⟩;have x2:=eM ko _ _ hv0;have u1:(i:Int)<(t.l.length:Int):=by omega
  have u2:(0:Int)≤(i:Int):=by omega
  have HT:=ac (ae hT h);have HN:=ac (BQ x.kd);have HX:=ac (ae (yu t.l i t.p x hx) (ae hd1 (ae hup hm)));clear hm kb ko kr hv0 hT h hx hd1 hup;go_enter Tryz.func26,Tryz.ntmps26;go_wp2;go_region;all_goals (
    have H4:=ac ((Ny.mk (W:=W) HT.out.1.1 HT.out.1.2).next (ay _ _).drew);clear d0 d1 d2 d3 d4 d5 x1 x2;generalize (W.setCell {block:=ga,off:=i*4+2} (Value.int IntKind.i64 (t.p:Int))).drew=W3 at *;obtain⟨lv2,kb,ko⟩:=H4.out.m.w;obtain⟨A2,n2,c2,rfl⟩:=eA ko;have hn2:=ff ko;replace hn2:n2=(ik t.l i t.p).length:=hn2;subst hn2;obtain⟨g2,o2,rfl,_,hc⟩:=fW gu (Rd.of_own ko) HX.out.1 rfl;obtain⟨d0,d1,d2,d3,d4,d5⟩:=kb.sixn;rw[ij] at d2;replace d4:W3.cell? ⟨g,4,none⟩=some (.int .i64 (i:Int)):=by rw[←HX.out.2.2.1];exact d4
    replace d5:W3.cell? ⟨g,5,none⟩=some (.int .i64 (t.deep:Int)):=d5;have z0:W3.cell? ⟨g2,o2+i*4,none⟩=some (.int .i64 (x.kd:Int)):=hc 0 _ rfl;have e4:=kb.frozen 4;have e5:=kb.frozen 5;have hg3:=kb.lt;clear kb ko hc
    cases hb:ie x.kd)
  case' false=>
    have HB:=ac (ae hb (fun W=>hb▸HN.out W));clear hb;have H5:=ac ((H4.out.drew 0).setUp u)
  case' true=>
    have h1:=HX.out.2.1 hb;have v2:IntKind.i64.wrap ((t.deep:Int)-1)=((t.deep-1:Nat):Int):=by rw[aO _ (by omega)];omega
    have HB:=ac (ae hb (fun W=>hb▸HN.out W));clear hb
  all_goals (
    go_wp2
    go_quiet (first
      | (go_at_call 43;refine(HB.out.2 _).mono ?_;rintro e w' ⟨rfl,rfl⟩;exact⟨rfl,_,rfl⟩))
    go_wp2;first|go_end0|refine bn ?_
    refine⟨rfl,?_⟩;unfold De;rw[HB.out.1]
    first
      | exact(H4.out.drew nq).setUp u
      | exact((H4.out.drew nq).setDeep (t.deep-1)).setUp u
      | trace_state)
theorem NI {k:Nat} (hk:ie k=false) (s:Ps):MV k s=fG k s:=by unfold MV;rw[hk];rfl
theorem NH {k:Nat} (hk:ie k=true) (s:Ps):MV k s=fG k {s with deep:=s.deep+1}:=by unfold MV;rw[hk];rfl
theorem Mx {k:Nat} (hk:ie k=false) (f:Ps→Ps) (s:Ps):De k s.l.length s.up (f (fG k s))=eh k f s:=by unfold De;rw[hk];rfl
theorem Mw {k:Nat} (hk:ie k=true) (f:Ps→Ps) (s:Ps):De k s.l.length s.up (f (fG k {s with deep:=s.deep+1}))=jI k f s:=by unfold De;rw[hk];rfl
theorem wU (hn:ie k=false) (h:Nk g fv F s W) (hl:s.l.length≤50000) (hk:k≤18) (hd:s.deep≤1000) :
    Calls Tryz.prog 21 #[.pointer (some ⟨g,0,none⟩),.int .i64 (k:Int)] W fun e w'=>e=.returned (.int .i64 s.up)∧Ny g fv F W (fG k s) w':=by
  rw[←NI hn];exact Cj k h hl hk hd
theorem Kr (hn:ie k=true) (h:Nk g fv F s W) (hl:s.l.length≤50000) (hk:k≤18) (hd:s.deep≤1000) :
    Calls Tryz.prog 21 #[.pointer (some ⟨g,0,none⟩),.int .i64 (k:Int)] W fun e w'=>e=.returned (.int .i64 s.up)∧Ny g fv F W (fG k {s with deep:=s.deep+1}) w':=by
  rw[←NH hn];exact Cj k h hl hk hd
theorem K5 {k:Nat} (h:Gd N B (fG k s) t):t.up=(s.l.length:Int)∧t.l[s.l.length]? = some ⟨k,s.p,0,s.up⟩∧t.deep=s.deep:=by
  refine⟨h.up,?_,h.dp⟩;obtain⟨m,h1,_⟩:=h.f;rw[h1];show ((s.l++[_])++m)[s.l.length]? = _;rw[aW,aP (au _),dB];rfl
theorem Gu (hn:ie k=false) (hG:Gd N B (fG k s) (f (fG k s))) (h:Nk g fv F (f (fG k s)) W) (hl:(f (fG k s)).l.length≤100000) (hd:s.deep≤1000) :
    Calls Tryz.prog 26 #[.pointer (some ⟨g,0,none⟩),.int .i64 s.up] W fun e w'=>e=.returned (.tuple #[])∧Ny g fv F W (eh k f s) w':=by
  obtain⟨h1,h2,h3⟩:=K5 hG;rw[←Mx hn];exact K6 s.l.length s.up _ h h1 h2 hl (fun e=>by rw[show ie k=true from e] at hn;cases hn) (by omega)
theorem NO (hn:ie k=true) (hG:Gd N B (fG k {s with deep:=s.deep+1}) (f (fG k {s with deep:=s.deep+1}))) (h:Nk g fv F (f (fG k {s with deep:=s.deep+1})) W) (hl:(f (fG k {s with deep:=s.deep+1})).l.length≤100000) (hd:s.deep≤900) :
    Calls Tryz.prog 26 #[.pointer (some ⟨g,0,none⟩),.int .i64 s.up] W fun e w'=>e=.returned (.tuple #[])∧Ny g fv F W (jI k f s) w':=by
  obtain⟨h1,h2,h3⟩:=K5 hG;rw[←Mw hn];exact K6 s.l.length s.up _ h h1 h2 hl (fun _=>by rw[h3];exact Nat.le_add_left 1 _) (by rw[h3];show s.deep+1≤1000;omega)
theorem Mn {k:Nat} (hs:s.p≤F.length):Gd F.length 0 (fG k s) (fG k s):=Gd.refl hs
theorem L6 (hF:FB F) (h:Nk g fv F s W) (hB:Bd F 100 s) :
    vA 69 g fv F W (.tuple #[]) (fe s):=by
  have hn:=hF.n;have hl:=hB.l5 hF (by omega);have hd:=hB.d;have c1:=wU 18 (by decide) h hl (by omega) (by omega);have c2:∀W1,Nk g fv F (fG 18 s) W1→_:=fun W1 h1=>Gu 18 id (by decide) (Mn (k:=18) hB.p) h1 (by show (s.l++[_]).length≤100000;rw[aD];simp;omega) (by omega)
  have HC:=ac (ae c1 c2);clear c1 c2 h;go_enter Tryz.func69,Tryz.ntmps69
  go_wp2_with (first
    | (go_at_call 21;refine HC.out.1.mono ?_;rintro e w1 ⟨rfl,hz⟩;have H1:=ac hz;clear hz)
    | (go_at_call 26;refine(HC.out.2 _ H1.out.m).mono ?_;rintro e w2 ⟨rfl,hz⟩;have H2:=ac (H1.out.then hz);clear hz)
    | fail)
  first|go_end0|refine bn ?_
  exact⟨rfl,H2.out⟩
theorem NA (hk:1≤k∧k≤17) (hnb:ie k=false) (hF:FB F) (h:Nk g fv F s W) (hB:Bd F 100 s) (hs:s.p<F.length) :
    Calls Tryz.prog 25 #[.pointer (some ⟨g,0,none⟩),.int .i64 (k:Int)] W fun e w'=>e=.returned (.tuple #[])∧Ny g fv F W (eD k s) w':=by
  have hn:=hF.n;have hl:=hB.l5 hF (by omega);have hd:=hB.d;have hG:Gd F.length 0 (fG k s) (dY (fG k s)):=⟨bW _,hs,au _,by show _≤_+16*(s.p+1)+0;show (fG k s).l.length+16*s.p≤_;omega,rfl,rfl,[],by simp[dY],.nil (bW _)⟩;have c1:=wU k hnb h hl (by omega) (by omega);have c2:∀W1,Nk g fv F (dY (fG k s)) W1→_:=fun W1 h1=>Gu k dY hnb hG h1 (by show (s.l++[_]).length≤100000;rw[aD];simp;omega) (by omega)
  have v1:IntKind.i64.wrap ((s.p:Int)+1)=((s.p+1:Nat):Int):=by rw[aO _ (by omega)];omega
  have HC:=ac (ae c1 c2);clear c1 c2 h hG;go_enter Tryz.func25,Tryz.ntmps25
  go_wp2_with (first
    | (go_at_call 21;refine HC.out.1.mono ?_;rintro e w1 ⟨rfl,hz⟩;have hg1:=hz.m.lt;obtain⟨⟨d0,d1,d3,d4,d5⟩,e2,e3,e4,e5⟩:=hz.m.cells;replace d3:w1.cell? ⟨g,3,none⟩=some (.int .i64 (s.p:Int)):=d3;have H1:=ac (hz.setP (s.p+1));clear hz)
    | (go_at_call 26;refine(HC.out.2 _ H1.out.m).mono ?_;rintro e w2 ⟨rfl,hz⟩;have H2:=ac (H1.out.then hz);clear hz)
    | fail)
  first|go_end0|refine bn ?_
  exact⟨rfl,H2.out⟩
end Go.Proofs.YtmclohkaiemnaaaGreatDoor
