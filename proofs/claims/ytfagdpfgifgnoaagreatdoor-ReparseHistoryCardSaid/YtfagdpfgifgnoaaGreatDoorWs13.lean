/- parse.faults, parse.Clean and parse.Faults: the nodes that are Errors or Missings. -/
import Derived.Test.YtfagdpfgifgnoaaGreatDoorMb13
import Derived.Test.YtfagdpfgifgnoaaGreatDoorRfy
import Derived.Test.YtfagdpfgifgnoaaGreatDoorPl13
import Derived.RangeFuncNested
import Derived.Shelf.Abstract
import Derived.BigQuiet
set_option linter.unusedVariables false
set_option linter.unusedSimpArgs false
set_option maxRecDepth 100000
set_option maxHeartbeats 8000000
namespace Go.Proofs.YtfagdpfgifgnoaaGreatDoor
open Go.RowKit
variable {u:Int} {l:List Nd} {a b c i:Nat} {n:Nd} (L:List Nd) (F:List Lf) (A:Option Addr)
section
open Go.RowKit
attribute [local go_sem] Oper.semAt_some
structure Nz where
  kd:Int
  fr:Int
  tt:Int
  up:Int
def Gz (x:Nz):List Value:=[.int .i64 x.kd,.int .i64 x.fr,.int .i64 x.tt,.int .i64 x.up]
theorem FV (x:Nz):(Gz x).length=4:=rfl
def GJ (L:List Nz):List Value:=L.flatMap Gz
def nz (x:Nd):Nz:=⟨x.kd,x.fr,x.tt,x.up⟩
end
inductive sE (l:List Nd) (a:Nat):Nat→Prop
  | refl:sE l a a
  | step {b c:Nat} {n:Nd}:l[b]? = some n→n.up=(c:Int)→c<b→sE l a c→sE l a b
theorem sE.app (h:sE l a b) (m:List Nd):sE (l++m) a b:=by
  induction h with
  | refl=>exact .refl
  | step h1 h2 h3 _ ih=>exact .step (by rw[List.getElem?_append_left (List.getElem?_eq_some_iff.1 h1).1];exact h1) h2 h3 ih
theorem sE.trans (h:sE l a b) (k:sE l b c):sE l a c:=by
  induction k with
  | refl=>exact h
  | step h1 h2 h3 _ ih=>exact .step h1 h2 h3 ih
structure wy (l:List Nd) (i:Nat) (n:Nd):Prop where
  k:Gi n.kd n.fr n.tt
  le:n.fr≤n.tt
  u:0<i→∃(u:Nat) (m:Nd),n.up=(u:Int)∧u<i∧sE l u (i-1)∧l[u]? = some m∧m.fr≤n.fr∧n.tt≤m.tt∧∀(k:Nat) (q:Nd),0<k→k<i→l[k]? = some q→q.up=n.up→q.tt≤n.fr
theorem wy.app (h:wy l i n) (hi:i<l.length∨i=l.length) (m:List Nd):wy (l++m) i n:=by
  refine⟨h.k,h.le,fun h0=>?_⟩;obtain⟨u,p,h1,h2,h3,h4,h5,h6,h7⟩:=h.u h0;refine⟨u,p,h1,h2,h3.app m,by rw[List.getElem?_append_left (List.getElem?_eq_some_iff.1 h4).1];exact h4,h5,h6,fun k q k0 k1 k2 k3=>h7 k q k0 k1 ?_ k3⟩
  rwa [List.getElem?_append_left (by omega)] at k2
def mj (l:List Nd):Prop:=∀(i:Nat) (n:Nd),l[i]? = some n→wy l i n
theorem mj.snoc (h:mj l) (hn:wy l l.length n):mj (l++[n]):=by
  intro i m hm;rcases Nat.lt_or_ge i l.length with hi|hi
  ·rw[List.getElem?_append_left hi] at hm
   exact(h i m hm).app (.inl hi) _
  ·have hlt:=(List.getElem?_eq_some_iff.1 hm).1;simp only[List.length_append,List.length_singleton] at hlt;obtain rfl:i=l.length:=by omega
   rw[List.getElem?_append_right (Nat.le_refl _)] at hm;simp at hm;subst hm;exact hn.app (.inr rfl) _
theorem Fo.row (h:Fo b u a c l):∀(pre:List Nd) (v:Nat) (m:Nd),pre.length=b→u=(v:Int)→v<b→mj pre→sE pre v (b-1)→pre[v]? = some m→m.fr≤a→c≤m.tt →
    (∀(k:Nat) (q:Nd),0<k→pre[k]? = some q→q.up=u→q.tt≤a) →
    mj (pre++l)∧sE (pre++l) v (b+l.length-1)∧(∀(k:Nat) (q:Nd),0<k→(pre++l)[k]? = some q→q.up=u→q.tt≤c)∧(∀(k:Nat) (q:Nd),b≤k→(pre++l)[k]? = some q→q.up=u∨(b:Int)≤q.up):=by
  induction h with
  | nil h=>
    intro pre v m h1 h2 h3 h4 h5 h6 h7 h8 h9;rw[List.append_nil];exact⟨h4,h5,fun k q k0 k1 k2=>Nat.le_trans (h9 k q k0 k1 k2) h,fun k q k0 k1=>by have:=(List.getElem?_eq_some_iff.1 k1).1;omega⟩
  | @cons b u a c k x y ks r e1 e2 e3 e4 e5 ih1 ih2=>
    intro pre v m h1 h2 h3 h4 h5 h6 h7 h8 h9;have hyc:=e5.le;have hn:wy pre pre.length ⟨k,x,y,u⟩:=⟨e3,e2,fun _=>⟨v,m,h2,by omega,by rw[h1];exact h5,h6,by show m.fr≤x;omega,by show y≤m.tt;omega,fun k' q k0 k1 k2 k3=>Nat.le_trans (h9 k' q k0 k2 k3) e1⟩⟩;have r1:=h4.snoc hn;have g0:(pre++[⟨k,x,y,u⟩])[b]? = some ⟨k,x,y,u⟩:=by rw[List.getElem?_append_right (by omega),h1];simp
    have up0:∀(j:Nat) (q:Nd),0<j→j<b→pre[j]? = some q→q.up<(b:Int):=fun j q j0 j1 j2=>by
      obtain⟨w,_,w1,w2,_⟩:=(h4 j q j2).u j0;omega
    obtain⟨r2,r3,r4,r5⟩:=ih1 (pre++[⟨k,x,y,u⟩]) b ⟨k,x,y,u⟩ (by simp[h1]) rfl (by omega) r1 (by rw[show b+1-1=b by omega];exact .refl) g0 (Nat.le_refl _) (Nat.le_refl _) (fun j q j0 j1 j2=>by
      rcases Nat.lt_or_ge j b with hj|hj
      ·rw[List.getElem?_append_left (by omega)] at j1
       have:=up0 j q j0 hj j1
       omega
      ·have:=(List.getElem?_eq_some_iff.1 j1).1
       simp only[List.length_append,List.length_singleton] at this;obtain rfl:j=b:=by omega
       rw[g0] at j1;injection j1 with j1
       subst j1;have j2:u=_:=j2;omega)
    have g1:(pre++[⟨k,x,y,u⟩]++ks)[v]? = some m:=by
      rw[List.append_assoc,List.getElem?_append_left (by omega)];exact h6
    have g2:(pre++[⟨k,x,y,u⟩]++ks)[b]? = some ⟨k,x,y,u⟩:=by
      rw[List.getElem?_append_left (by simp;omega)];exact g0
    have a1:sE (pre++[⟨k,x,y,u⟩]++ks) v b:=by
      refine .step g2 h2 h3 ?_;exact .refl
    obtain⟨r6,r7,r8,r9⟩:=ih2 (pre++[⟨k,x,y,u⟩]++ks) v m (by simp;omega) h2 (by omega) r2 (by
        have:=a1.trans r3
        rwa [show b+1+ks.length-1=b+1+ks.length-1 from rfl] at this) g1 (by omega) h8 (fun j q j0 j1 j2=>by
      rcases Nat.lt_or_ge j b with hj|hj
      ·rw[List.append_assoc,List.getElem?_append_left (by omega)] at j1
       have:=h9 j q j0 j1 j2
       omega
      ·rcases Nat.lt_or_ge j (b+1) with hj2|hj2
       ·obtain rfl:j=b:=by omega
        rw[g2] at j1;injection j1 with j1
        subst j1;exact Nat.le_refl _
       ·rcases r5 j q hj2 j1 with h|h
        ·omega
        ·omega)
    have e:pre++⟨k,x,y,u⟩::(ks++r)=pre++[⟨k,x,y,u⟩]++ks++r:=by simp
    rw[e];refine⟨r6,?_,r8,fun j q j0 j1=>?_⟩
    ·rw[show b+(⟨k,x,y,u⟩::(ks++r):List Nd).length-1=b+1+ks.length+r.length-1 by simp;omega];exact r7
    ·rcases Nat.lt_or_ge j (b+1+ks.length) with hj|hj
     ·rw[List.getElem?_append_left (by simp;omega)] at j1;rcases Nat.lt_or_ge j (b+1) with hj2|hj2
      ·obtain rfl:j=b:=by omega
       rw[g2] at j1;injection j1 with j1
       subst j1;exact .inl rfl
      ·rcases r5 j q hj2 j1 with h|h
       ·exact .inr (by omega)
       ·exact .inr (by omega)
     ·rcases r9 j q hj j1 with h|h
      ·exact .inl h
      ·exact .inr (by omega)
theorem Ey:mj (cE F).l∧∃r,(cE F).l=⟨1,0,F.length, -1⟩::r:=by
  have h:=fun t (ht:t.p=(eI 0).p)=>uS (cy F (F.length+1)) _ (t,false) rfl (by rw[ht];exact Nat.zero_le _)
  obtain⟨h1,h2⟩:=h {eI 0 with l:=(eI 0).l++[⟨1,(eI 0).p,0,(eI 0).up⟩],up:=((eI 0).l.length:Int)} rfl;obtain⟨m,h3,h4⟩:=h1.f;have e:(cE F).l=⟨1,0,F.length, -1⟩::m:=by
    show dh (eV F (ef F (F.length+1)) ({eI 0 with l:=(eI 0).l++[⟨1,(eI 0).p,0,(eI 0).up⟩],up:=((eI 0).l.length:Int)},false)).1.l 0 (eV F (ef F (F.length+1)) ({eI 0 with l:=(eI 0).l++[⟨1,(eI 0).p,0,(eI 0).up⟩],up:=((eI 0).l.length:Int)},false)).1.p=_;rw[h3,h2];rfl
  have r0:mj [⟨1,0,F.length, -1⟩]:=by
    intro i n hn
    have:=(List.getElem?_eq_some_iff.1 hn).1
    simp at this;subst this;simp at hn;subst hn;exact⟨⟨Nat.le_refl _,Nat.le_add_left 1 17,fun e=>absurd (show 1=17 from e) (by decide),fun e=>absurd (show 1=18 from e) (by decide)⟩,Nat.zero_le _,fun h=>absurd h (Nat.lt_irrefl _)⟩
  have h5:Fo 1 ((0:Nat):Int) 0 F.length m:=by rw[h2] at h4;exact h4
  have h6:=h5.row [⟨1,0,F.length, -1⟩] 0 _ rfl rfl (by omega) r0 .refl rfl (Nat.zero_le _) (Nat.le_refl _) (fun k q k0 k1 _=>by
    have:=(List.getElem?_eq_some_iff.1 k1).1
    simp at this;omega)
  rw[e];exact⟨h6.1,m,rfl⟩
theorem CO (c a b:Nat) (w:World) (hl:L.length≤100000) (hrd:Rd w w.heap.size 4 (.slice A L.length c) L.length (dt L)) (hb:b<L.length) (h:sE L a b) :
    CW 46 #[.slice A L.length c,.int .i64 (a:Int),.int .i64 (b:Int)] w (.bool true):=by
  have HC:=Lib.hid (And.intro hrd h);clear hrd h;go_enter Tryz.func46,Tryz.ntmps46;go_wp2;go_loopw [2] (fun i wr=>∃k:Nat,k<L.length∧i=.int .i64 k∧sE L a k∧wr=w) (fun i _=>(intOf i).toNat)
  case atStart=>exact⟨b,hb,rfl,HC.out.2,rfl⟩
  case round=>
    obtain⟨k,hk,rfl,hA,rfl⟩:=hrel;have u2:(0:Int)≤(k:Int):=by omega
    by_cases hak:a=k
    ·subst hak;clear hA;go_wp2;go_ret;exact⟨rfl,rfl⟩
    ·have t1:((a:Int)==(k:Int))=false:=beq_false_of_ne (by omega);have u1:(k:Int)<(L.length:Int):=by omega
     cases hA with
     | refl=>exact absurd rfl hak
     | @step _ c2 n h1 h2 h3 h4=>
       obtain⟨g,o,rfl,_,hc⟩:=bS de HC.out.1 h1 rfl;have z3:wr.cell? ⟨g,o+k*4+3,none⟩=some (.int .i64 n.up):=hc 3 _ rfl;rw[h2] at z3;have HX:=Lib.hid h4;clear hc h4 h2 h1;go_wp2;exact⟨⟨c2,by omega,rfl,HX.out,trivial⟩,by simp[intOf]<;>omega⟩
theorem FS (c nl:Nat) (w:World) (hl:L.length≤100000) (hrd:Rd w w.heap.size 4 (.slice A L.length c) L.length (dt L)) (hok:mj L) (h0:L[0]? = some ⟨1,0,nl, -1⟩) :
    iE 18 #[.slice A L.length c,.int .i64 (nl:Int)] w (.bool true):=by
  have c1:∀W (u i:Nat),Below w.heap.size w W→i<L.length→sE L u i→CW 46 #[.slice A L.length c,.int .i64 (u:Int),.int .i64 (i:Int)] W (.bool true):=
    fun W u i hW hi hA=>CO L A c u i W hl ((hrd.keep hW (Nat.le_refl _)).mono hW.size) hi hA
  have hne:0<L.length:=(List.getElem?_eq_some_iff.1 h0).1;have hne1:((L.length:Int)==0)=false:=beq_false_of_ne (by omega);have hne2:(0:Int)<(L.length:Int):=by omega
  obtain⟨g,o,rfl,hgl,hc0⟩:=bS de hrd h0 rfl;have y1:w.cell? ⟨g,o+1,none⟩=some (.int .i64 0):=hc0 1 _ rfl;have y2:w.cell? ⟨g,o+2,none⟩=some (.int .i64 (nl:Int)):=hc0 2 _ rfl;have y3:w.cell? ⟨g,o+3,none⟩=some (.int .i64 (-1)):=hc0 3 _ rfl;have HC:=Lib.hid (And.intro c1 (And.intro hrd hok));clear c1 hrd hok hc0 h0;go_enter Tryz.func18,Tryz.ntmps18;go_wp2_with fail;clear y1 y2 y3;go_loopw [5] (fun i wr=>∃k:Nat,k≤L.length∧i=.int .i64 k∧Below w.heap.size w wr) (fun i _=>L.length-(intOf i).toNat)
  case atStart=>exact⟨0,Nat.zero_le _,rfl,Below.refl _ _⟩
  case round=>
    obtain⟨k,hk,rfl,hb⟩:=hrel;by_cases hlt:k<L.length
    ·have u1:(k:Int)<(L.length:Int):=by omega
     have u2:(0:Int)≤(k:Int):=by omega
     obtain⟨x,hx⟩:∃x,L[k]? = some x:=⟨_,List.getElem?_eq_getElem hlt⟩;have hR:=HC.out.2.1.keep hb (Nat.le_refl _);obtain⟨g0,o0,e0,_,hc⟩:=bS de hR hx rfl
     cases e0;have z0:wr.cell? ⟨g,o+k*4,none⟩=some (.int .i64 (x.kd:Int)):=hc 0 _ rfl;have z1:wr.cell? ⟨g,o+k*4+1,none⟩=some (.int .i64 (x.fr:Int)):=hc 1 _ rfl;have z2:wr.cell? ⟨g,o+k*4+2,none⟩=some (.int .i64 (x.tt:Int)):=hc 2 _ rfl;have z3:wr.cell? ⟨g,o+k*4+3,none⟩=some (.int .i64 x.up):=hc 3 _ rfl;have hn:=HC.out.2.2 k x hx;obtain⟨zk,hzk⟩:∃z:Int,z=(x.kd:Int):=⟨_,rfl⟩;obtain⟨zf,hzf⟩:∃z:Int,z=(x.fr:Int):=⟨_,rfl⟩;obtain⟨zt,hzt⟩:∃z:Int,z=(x.tt:Int):=⟨_,rfl⟩;have t1:decide (zk<1)=false:=decide_eq_false (by have:=hn.k.1;omega);have t2:decide ((18:Int)<zk)=false:=decide_eq_false (by have:=hn.k.2.1;omega);have t3:decide (zt<zf)=false:=decide_eq_false (by have:=hn.le;omega);rw[←hzk] at z0;rw[←hzf] at z1;rw[←hzt] at z2;by_cases hk0:k=0
     ·subst hk0;have HB:=Lib.hid hb;clear hb hR hc hn hx hzk hzf hzt;simp only[Nat.zero_mul,Nat.add_zero] at z0 z1 z2;go_wp2;go_quiet (fail);go_wp2;exact⟨⟨1,by omega,by go_num,ae HB.out _⟩,by simp[intOf]<;>omega⟩
     ·have t4:((k:Int)==0)=false:=beq_false_of_ne (by omega);obtain⟨u,m,n1,n2,n3,n4,n5,n6,n7⟩:=hn.u (by omega);obtain⟨g0,o0,e0,_,hcu⟩:=bS de hR n4 rfl
      cases e0;have v1:wr.cell? ⟨g,o+u*4+1,none⟩=some (.int .i64 (m.fr:Int)):=hcu 1 _ rfl;have v2:wr.cell? ⟨g,o+u*4+2,none⟩=some (.int .i64 (m.tt:Int)):=hcu 2 _ rfl;rw[n1] at z3;have u3:(0:Int)≤(u:Int):=by omega
      have u4:(u:Int)<(L.length:Int):=by omega
      have t5:decide ((u:Int)<0)=false:=decide_eq_false (by omega);have t6:decide ((k:Int)≤(u:Int))=false:=decide_eq_false (by omega);have t6b:decide (k≤u)=false:=decide_eq_false (by omega);obtain⟨yf,hyf⟩:∃z:Int,z=(m.fr:Int):=⟨_,rfl⟩;obtain⟨yt,hyt⟩:∃z:Int,z=(m.tt:Int):=⟨_,rfl⟩;rw[←hyf] at v1;rw[←hyt] at v2;have t7:decide (zf<yf)=false:=decide_eq_false (by omega);have t8:decide (yt<zt)=false:=decide_eq_false (by omega);have e1:(k:Int)-1=((k-1:Nat):Int):=by omega
      have h9:∀(j:Nat) (q:Nd),0<j→j<k→L[j]? = some q→q.up=(u:Int)→(q.tt:Int)≤zf:=fun j q j0 j1 j2 j3=>by rw[hzf];exact Int.ofNat_le.2 (n7 j q j0 j1 j2 (by rw[j3,n1]))
      have HB:=Lib.hid (And.intro hb (And.intro n3 (And.intro h9 (And.intro e1 (And.intro hx hzf)))));clear hb hR hc hn hx hcu n1 n3 n4 n5 n6 n7 h9 e1 hzk hzf hzt hyf hyt;go_wp2;go_quiet (fail);go_wp2
      go_quiet (first
        | (go_at_call 46;first|rw[HB.out.2.2.2.1]|skip
           refine(HC.out.1 _ _ _ (ae HB.out.1 _) (by omega) HB.out.2.1).mono ?_;rintro e w' ⟨rfl,rfl⟩;exact⟨rfl,_,rfl⟩))
      go_wp2;have hbW:=ae HB.out.1 nq;have HB2:=Lib.hid hbW;clear hbW;go_loopw [7] (fun i wr=>∃j:Nat,1≤j∧j≤k∧i=.int .i64 j∧Below w.heap.size w wr) (fun i _=>k-(intOf i).toNat)
      case atStart=>exact⟨1,Nat.le_refl _,by omega,rfl,by first|exact ae HB.out.1 _|exact ae (ae HB.out.1 _) _⟩
      case round=>
        obtain⟨j,hj1,hj,rfl,hb⟩:=hrel;by_cases hjk:j<k
        ·have p1:(j:Int)<(k:Int):=by omega
         have p2:(0:Int)≤(j:Int):=by omega
         have p3:(j:Int)<(L.length:Int):=by omega
         obtain⟨q,hq⟩:∃q,L[j]? = some q:=⟨_,List.getElem?_eq_getElem (by omega)⟩;have hR:=HC.out.2.1.keep hb (Nat.le_refl _);obtain⟨g0,o0,e0,_,hc⟩:=bS de hR hq rfl
         cases e0;obtain⟨g0,o0,e0,_,hcx⟩:=bS de hR HB.out.2.2.2.2.1 rfl
         cases e0;have q2:wr.cell? ⟨g,o+j*4+2,none⟩=some (.int .i64 (q.tt:Int)):=hc 2 _ rfl;have q3:wr.cell? ⟨g,o+j*4+3,none⟩=some (.int .i64 q.up):=hc 3 _ rfl;have x1:wr.cell? ⟨g,o+k*4+1,none⟩=some (.int .i64 zf):=by rw[HB.out.2.2.2.2.2];exact hcx 1 _ rfl
         obtain⟨yq,hyq⟩:∃z:Int,z=(q.tt:Int):=⟨_,rfl⟩;rw[←hyq] at q2;by_cases hup:q.up=(u:Int)
         ·have w1:(q.up==(u:Int))=true:=by rw[hup];simp
          have w2:decide (zf<yq)=false:=decide_eq_false (by have:=HB.out.2.2.1 j q (by omega) hjk hq hup;omega);have HJ:=Lib.hid hb;clear hb hR hc hcx hq hup hyq;go_wp2;go_quiet (fail);go_wp2;exact⟨⟨j+1,by omega,by omega,by go_num,ae HJ.out _⟩,by simp[intOf]<;>omega⟩
         ·have w1:(q.up==(u:Int))=false:=beq_false_of_ne hup;have HJ:=Lib.hid hb;clear hb hR hc hcx hq hyq;go_wp2;go_quiet (fail);go_wp2;exact⟨⟨j+1,by omega,by omega,by go_num,ae HJ.out _⟩,by simp[intOf]<;>omega⟩
        ·obtain rfl:j=k:=by omega
         have HJ:=Lib.hid hb;clear hb;go_wp2;exact⟨⟨j+1,by omega,by go_num,HJ.out⟩,by simp[intOf]<;>omega⟩
    ·obtain rfl:k=L.length:=by omega
     have HB:=Lib.hid hb;clear hb;go_wp2;go_ret;exact⟨rfl,HB.out⟩
end Go.Proofs.YtfagdpfgifgnoaaGreatDoor
