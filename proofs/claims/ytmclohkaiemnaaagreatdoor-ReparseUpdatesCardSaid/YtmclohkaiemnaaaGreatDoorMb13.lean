/- The parser's memory: the box of a maker, the leaves that it reads and the nodes that it has made. -/
import Derived.Test.YtmclohkaiemnaaaGreatDoorPl13
import Derived.Test.YtmclohkaiemnaaaGreatDoorOp9
import Derived.Test.YtmclohkaiemnaaaGreatDoorSa9
import Derived.Test.YtmclohkaiemnaaaGreatDoorLn9
import Derived.OwnWalk
set_option linter.unusedVariables false
set_option linter.unusedSimpArgs false
set_option maxRecDepth 100000
set_option maxHeartbeats 8000000
namespace Go.Proofs.YtmclohkaiemnaaaGreatDoor
open Go.RowKit
variable {listed:Array Bool} {ops:Array Oper} {cs:Array Value} {Q:Exit→Act→World→Prop} {F:List Lf} {xs:List Value} {B g n sz ga q fuel:Nat} {oi:Oper} {A:Option Addr} {P:Program} {s t:Ps} {md:Region.Mode} {fv lv v' x0 x1 x2 x3 x4 r:Value} {a w' W b W' W1:World} {S:World→Prop} (l:List UInt8) (i:Nat) (L:List Nd) (x:Nd) (v:Value) (M:List Nd) (c:UInt8) (w:World)
theorem K7 {w:World} (h:Below B a w) (hg:w.grownBy w' (some g)) (hB:B≤w.heap.size) (hr:B≤g):Below B a w':=
  h.grown hg hB (fun k e=>by injection e with e;omega)
def Dv (x:Nd):List Value:=[.int .i64 (x.kd:Int),.int .i64 (x.fr:Int),.int .i64 (x.tt:Int),.int .i64 x.up]
theorem gu:(Dv x).length=4:=rfl
def fm (L:List Nd):List Value:=L.flatMap Dv
theorem mj:fm (L++M)=fm L++fm M:=by simp[fm]
theorem lg:(fm L).length=L.length*4:=by
  induction L with
  | nil=>rfl
  | cons x L ih=>show (Dv x++fm L).length=_;rw[aD,ih,gu,aL];omega
theorem rp:∀u∈fm [x],u.oneCell'=true:=by
  intro u hu;simp[fm,Dv] at hu;rcases hu with rfl|rfl|rfl|rfl<;>rfl
theorem sO:∀(L:List Nd) (i t:Nat),i<L.length→(fm L).set (i*4+2) (.int .i64 (t:Int))=fm (ik L i t)
  | [],i,t,h=>by simp at h
  | x::L,0,t,h=>rfl
  | x::L,i+1,t,h=>by
    have ih:=sO L i t (by simpa using h);show (Dv x++fm L).set _ _=Dv x++fm (ik L i t);rw[←ih,dt _ _ (by rw[gu];omega),gu,show (i+1)*4+2-4=i*4+2 by omega]
structure Fg (g:Nat) (W W':World):Prop where
  hb:Below g W W'
  kt:KT [78,52] W W'
theorem Fg.refl (g:Nat) (W:World):Fg g W W:=⟨ay _ _,KT.refl _ _⟩
theorem Fg.trans {c:World} (h:Fg g a b) (k:Fg g b c):Fg g a c:=⟨h.hb.trans k.hb,h.kt.trans k.kt⟩
theorem Fg.of (hb:Below W.heap.size W W') (hg:g≤W.heap.size):Fg g W W':=⟨hb.mono hg,KT.of_below hb⟩
structure Mk (g:Nat) (fv:Value) (F:List Lf) (s:Ps) (W:World):Prop where
  w:∃lv,Bk W g 78 #[fv,.int .i64 (s.p:Int),lv,.int .i64 s.up,.int .i64 (s.deep:Int)]∧W.ownsRow g 52 4 lv s.l.length (fm s.l)
  f:Rd W g 4 fv F.length (gv F)
theorem Mk.lt (h:Mk g fv F s W):g<W.heap.size:=by
  obtain⟨lv,h1,_⟩:=h.w;exact h1.lt
theorem Mk.next (h:Mk g fv F s W) (hb:Below W.heap.size W W'):Mk g fv F s W'∧Fg g W W':=by
  obtain⟨lv,h1,h2⟩:=h.w;exact⟨⟨⟨lv,h1.below hb h1.lt,eC h2 hb⟩,h.f.keep (hb.mono (aM h1.lt)) (au _)⟩,.of hb (aM h1.lt)⟩
theorem tV (h:Bk W g 78 cs) (i:Nat) (v:Value):Fg g W (W.setCell ⟨g,i,none⟩ v):=
  ⟨K7 (ay _ _) (eJ (fA W (some g)) i v) (aM h.lt) (au _),(KT.refl _ W).setCell h (by decide) i v⟩
theorem wj (h:Bk W g 78 cs) (k:W.ownsRow g 52 4 lv n xs) (i:Nat) (v:Value):(W.setCell ⟨g,i,none⟩ v).ownsRow g 52 4 lv n xs:=
  fh k (eP k h (by decide)) v
theorem By (h:Bk W g 78 cs) (k:Rd W g 4 fv n xs) (i:Nat) (v:Value):Rd (W.setCell ⟨g,i,none⟩ v) g 4 fv n xs:=
  k.keep (tV h i v).hb (au _)
theorem Rd.formm {w:World} {v:Value} (h:Rd w B sz v n xs):∃A c,v=.slice A n c:=by
  obtain⟨_,A,c,h2,_⟩:=h;exact⟨A,c,h2⟩
theorem Mk.setP (h:Mk g fv F s W) (p:Nat):Mk g fv F {s with p:=p} (W.setCell ⟨g,1,none⟩ (.int .i64 (p:Int)))∧Fg g W (W.setCell ⟨g,1,none⟩ (.int .i64 (p:Int))):=by
  obtain⟨lv,h1,h2⟩:=h.w;exact⟨⟨⟨lv,h1.set 1 _,wj h1 h2 _ _⟩,By h1 h.f _ _⟩,tV h1 _ _⟩
theorem Mk.setUp (h:Mk g fv F s W) (u:Int):Mk g fv F {s with up:=u} (W.setCell ⟨g,3,none⟩ (.int .i64 u))∧Fg g W (W.setCell ⟨g,3,none⟩ (.int .i64 u)):=by
  obtain⟨lv,h1,h2⟩:=h.w;exact⟨⟨⟨lv,h1.set 3 _,wj h1 h2 _ _⟩,By h1 h.f _ _⟩,tV h1 _ _⟩
theorem Mk.setDeep (h:Mk g fv F s W) (d:Nat):Mk g fv F {s with deep:=d} (W.setCell ⟨g,4,none⟩ (.int .i64 (d:Int)))∧Fg g W (W.setCell ⟨g,4,none⟩ (.int .i64 (d:Int))):=by
  obtain⟨lv,h1,h2⟩:=h.w;exact⟨⟨⟨lv,h1.set 4 _,wj h1 h2 _ _⟩,By h1 h.f _ _⟩,tV h1 _ _⟩
theorem Mk.setTo {c:Nat} (h1:Bk W g 78 #[fv,.int .i64 (s.p:Int),.slice (some ⟨ga,0,none⟩) n c,.int .i64 s.up,.int .i64 (s.deep:Int)]) (h2:W.ownsRow g 52 4 (.slice (some ⟨ga,0,none⟩) n c) s.l.length (fm s.l)) (hf:Rd W g 4 fv F.length (gv F)) (i t:Nat) (hi:i<s.l.length) :
    Mk g fv F {s with l:=ik s.l i t} (W.setCell ⟨ga,i*4+2,none⟩ (.int .i64 (t:Int)))∧Fg g W (W.setCell ⟨ga,i*4+2,none⟩ (.int .i64 (t:Int))):=by
  have hne:ga≠g:=fun e=>eP h2 h1 (by decide) (by rw[e];rfl)
  obtain⟨e1,_,_,e4,e5⟩:=iu h2;subst e1;have hh:=kY h2;have hs:=ox h2 (i*4+2) (.int .i64 (t:Int));rw[sO _ _ _ hi] at hs;have hg:=eJ (fA W (some ga)) (i*4+2) (.int .i64 (t:Int))
  refine⟨⟨⟨_,h1.grown hg (fun e=>hne (by injection e with e;exact e.symm)),by show World.ownsRow _ _ _ _ _ (ik _ _ _).length _;rw[ij];exact hs⟩,hf.keep (K7 (ay _ _) hg (aM h1.lt) e4) (au _)⟩,
    ⟨K7 (ay _ _) hg (aM h1.lt) e4,(KT.refl _ W).setCell hh (by decide) _ _⟩⟩
theorem Mk.push {x:Nd} (h1:Bk W g 78 #[fv,.int .i64 (s.p:Int),lv,.int .i64 s.up,.int .i64 (s.deep:Int)]) (h2:W.ownsRow g 52 4 lv s.l.length (fm s.l)) (hf:Rd W g 4 fv F.length (gv F)) (ho:W'.ownsRow g 52 4 v' (s.l.length+1) (fm s.l++fm [x])) (hg:W.grownBy W' lv.ownBlock) :
    Mk g fv F {s with l:=s.l++[x]} (W'.setCell ⟨g,2,none⟩ v')∧Fg g W (W'.setCell ⟨g,2,none⟩ v'):=by
  have k1:Bk W' g 78 _:=h1.grown hg (fun e=>eP h2 h1 (by decide) e.symm);have kfr:Fg g W W':=⟨dV (ay _ _) hg (aM h1.lt) (fun k hk=>(h2.lt k hk).1),(KT.refl _ W).grown hg (fun k hk=>by obtain⟨cs,t,fr,e1,e2⟩:=jR h2 k hk;exact⟨cs,t,fr,e1,by rw[e2];decide⟩)⟩;have kf:Rd W' g 4 fv F.length (gv F):=hf.keep kfr.hb (au _);rw[←mj] at ho;refine⟨⟨⟨v',k1.set 2 v',?_⟩,By k1 kf _ _⟩,kfr.trans (tV k1 _ _)⟩;show World.ownsRow _ _ _ _ _ (s.l++[x]).length _;rw[aD];exact wj k1 ho _ _
theorem Bk.fivem {w:World} {t:TypeId} (h:Bk w g t #[x0,x1,x2,x3,x4]):w.cell? ⟨g,0,none⟩=some x0∧w.cell? ⟨g,1,none⟩=some x1∧w.cell? ⟨g,2,none⟩=some x2∧w.cell? ⟨g,3,none⟩=some x3∧w.cell? ⟨g,4,none⟩=some x4:=
  ⟨h.cell 0,h.cell 1,h.cell 2,h.cell 3,h.cell 4⟩
def xd:List (List UInt8×UInt8):=[([33],33),([123],123),([125],125),([105,102],105),([116,104,101,110],116),([101,108,105,102],101),([101,108,115,101],108),([102,105],102),([119,104,105,108,101],119),([117,110,116,105,108],119),([100,111],100),([100,111,110,101],103),([102,111,114],114),([105,110],107),([99,97,115,101],99),([101,115,97,99],122)]
theorem Li:AZ 82 #[.string ⟨l.toArray⟩] w (.int .u8 ((nt l).toNat:Int)):=by
  by_cases h:∃q∈xd,l=q.1
  ·obtain⟨q,hq,rfl⟩:=h;simp only[xd,bj,dq,or_false] at hq;rcases hq with rfl|rfl|rfl|rfl|rfl|rfl|rfl|rfl|rfl|rfl|rfl|rfl|rfl|rfl|rfl|rfl
   all_goals (
     go_enter Tryz.func82,Tryz.ntmps82;go_wp2;go_ret;exact⟨rfl,rfl⟩)
  ·have hn:∀q∈xd,l≠q.1:=fun q hq e=>h ⟨q,hq,e⟩
   clear h;have ev:nt l=120:=by
     unfold nt;simp only[hn ([33],33) (by decide),hn ([123],123) (by decide),hn ([125],125) (by decide),hn ([105,102],105) (by decide),hn ([116,104,101,110],116) (by decide),hn ([101,108,105,102],101) (by decide),hn ([101,108,115,101],108) (by decide),hn ([102,105],102) (by decide),hn ([119,104,105,108,101],119) (by decide),hn ([117,110,116,105,108],119) (by decide),hn ([100,111],100) (by decide),hn ([100,111,110,101],103) (by decide),hn ([102,111,114],114) (by decide),hn ([105,110],107) (by decide),hn ([99,97,115,101],99) (by decide),hn ([101,115,97,99],122) (by decide),or_self,bp]
   rw[ev];have k0:(l==[33])=false:=aN (hn ([33],33) (by decide));have k1:(l==[123])=false:=aN (hn ([123],123) (by decide));have k2:(l==[125])=false:=aN (hn ([125],125) (by decide));have k3:(l==[105,102])=false:=aN (hn ([105,102],105) (by decide));have k4:(l==[116,104,101,110])=false:=aN (hn ([116,104,101,110],116) (by decide));have k5:(l==[101,108,105,102])=false:=aN (hn ([101,108,105,102],101) (by decide));have k6:(l==[101,108,115,101])=false:=aN (hn ([101,108,115,101],108) (by decide));have k7:(l==[102,105])=false:=aN (hn ([102,105],102) (by decide));have k8:(l==[119,104,105,108,101])=false:=aN (hn ([119,104,105,108,101],119) (by decide));have k9:(l==[117,110,116,105,108])=false:=aN (hn ([117,110,116,105,108],119) (by decide));have k10:(l==[100,111])=false:=aN (hn ([100,111],100) (by decide));have k11:(l==[100,111,110,101])=false:=aN (hn ([100,111,110,101],103) (by decide));have k12:(l==[102,111,114])=false:=aN (hn ([102,111,114],114) (by decide));have k13:(l==[105,110])=false:=aN (hn ([105,110],107) (by decide));have k14:(l==[99,97,115,101])=false:=aN (hn ([99,97,115,101],99) (by decide));have k15:(l==[101,115,97,99])=false:=aN (hn ([101,115,97,99],122) (by decide));clear hn ev;go_enter Tryz.func82,Tryz.ntmps82;go_wp2;go_ret;exact⟨rfl,rfl⟩
theorem uX (l:List UInt8):∀m k,iG l m k≠0→jd (iG l m k)=l
  | 0,_,h=>absurd rfl h
  | m+1,k,h=>by
    unfold iG at h ⊢;by_cases hk:jd k=l
    ·rw[aB hk];exact hk
    ·rw[aC hk] at h ⊢;exact uX l m (k+1) h
theorem BL {l:List UInt8} (h0:n≠0) (h:iR l=n):l=jd n:=by
  unfold iR at h;split at h
  ·exact absurd h.symm h0
  ·rw[←h];exact(uX l 17 1 (by rw[h];exact h0)).symm
theorem IW (n:Int) (b:Bool) (w:World) (h:(n,b)∈[((0:Int),false),(4,true),(5,true),(6,true),(7,true),(8,true),(9,true),(10,true),(11,true),(12,true),(13,false),(14,false),(15,false),(16,false),(17,false)]):ls 96 #[.int .i64 n] w (.bool b):=by
  simp only[bj,dq,or_false,dy] at h;rcases h with ⟨rfl,rfl⟩|⟨rfl,rfl⟩|⟨rfl,rfl⟩|⟨rfl,rfl⟩|⟨rfl,rfl⟩|⟨rfl,rfl⟩|⟨rfl,rfl⟩|⟨rfl,rfl⟩|⟨rfl,rfl⟩|⟨rfl,rfl⟩|⟨rfl,rfl⟩|⟨rfl,rfl⟩|⟨rfl,rfl⟩|⟨rfl,rfl⟩|⟨rfl,rfl⟩
  all_goals (
    go_enter Tryz.func96,Tryz.ntmps96;go_wp2;go_ret;exact⟨rfl,rfl⟩)
theorem Ah (hl:l.length≤1000000):AZ 81 #[.string ⟨l.toArray⟩] w (.int .u8 ((CX (iR l)).toNat:Int)):=by
  obtain⟨n,hn⟩:∃n,n=iR l:=⟨_,rfl⟩;have h17:n≤17:=by rw[hn];exact BN l
  have hc:∀W,ls 95 #[.string ⟨l.toArray⟩] W (.int .i64 (n:Int)):=fun W=>by rw[hn];exact ws l W hl
  have HC:=ac hc;have h1:n=13∨n=14∨n=15∨n=16∨n=17→l=jd n:=fun h=>BL (by omega) hn.symm
  rw[←hn];clear hc hn;have h0:n=0∨n=1∨n=2∨n=3∨n=4∨n=5∨n=6∨n=7∨n=8∨n=9∨n=10∨n=11∨n=12∨n=13∨n=14∨n=15∨n=16∨n=17:=by omega
  rcases h0 with rfl|rfl|rfl|rfl|rfl|rfl|rfl|rfl|rfl|rfl|rfl|rfl|rfl|rfl|rfl|rfl|rfl|rfl
  case' inr.inr.inr.inr.inr.inr.inr.inr.inr.inr.inr.inr.inr.inl=>obtain rfl:=h1 (by omega)
  case' inr.inr.inr.inr.inr.inr.inr.inr.inr.inr.inr.inr.inr.inr.inl=>obtain rfl:=h1 (by omega)
  case' inr.inr.inr.inr.inr.inr.inr.inr.inr.inr.inr.inr.inr.inr.inr.inl=>obtain rfl:=h1 (by omega)
  case' inr.inr.inr.inr.inr.inr.inr.inr.inr.inr.inr.inr.inr.inr.inr.inr.inl=>obtain rfl:=h1 (by omega)
  case' inr.inr.inr.inr.inr.inr.inr.inr.inr.inr.inr.inr.inr.inr.inr.inr.inr=>obtain rfl:=h1 (by omega)
  all_goals (
    clear h1;go_enter Tryz.func81,Tryz.ntmps81
    go_wp2_with (first
      | (go_at_call 95;with_reducible refine(HC.out _).mono ?_
         rintro e w1 ⟨rfl,rfl⟩)
      | (go_at_call 96;refine(IW _ _ _ (by first|exact db .. | (repeat (first|exact db .. | refine cj _ ?_)))).mono ?_;rintro e w2 ⟨rfl,rfl⟩)
      | fail)
    go_ret;exact⟨rfl,rfl⟩)
def Hz (x:Lf):Value:=.agg #[.int .i64 x.kd,.string ⟨x.tx.toArray⟩,.int .i64 x.fr,.int .i64 x.to]
theorem Eh (x:Lf) (w:World) (hl:x.tx.length≤1000000):jJ 60 #[Hz x] w (.int .u8 ((sA x).toNat:Int)):=by
  obtain⟨kd,t,fr,to⟩:=x;unfold Hz sA;simp only;replace hl:t.length≤1000000:=hl;have key:kd=2∨kd=4∨kd=5∨kd=6∨(kd≠2∧kd≠4∧kd≠5∧kd≠6):=by omega
  rcases key with rfl|rfl|rfl|rfl|⟨a,b,c,d⟩
  case' inr.inr.inr.inr=>
    rw[aC a,aC b,aC c,aC d];have a:(kd==2)=false:=aN a;have b:(kd==4)=false:=aN b;have c:(kd==5)=false:=aN c;have d:(kd==6)=false:=aN d
  all_goals (
    go_enter Tryz.func60,Tryz.ntmps60
    go_wp2_with (first
      | (go_at_call 81;refine(Ah t _ hl).mono ?_;rintro e w1 ⟨rfl,rfl⟩)
      | (go_at_call 82;refine(Li t _).mono ?_;rintro e w1 ⟨rfl,rfl⟩)
      | fail)
    go_ret;exact⟨rfl,(ay _ w).alloc (au _) _⟩)
theorem tJ (hl:l.length≤100000):AZ 180 #[.string ⟨l.toArray⟩] w (.bool (iC l)):=by
  unfold iC;by_cases h:l=[]
  ·subst h;go_enter Tryz.func180,Tryz.ntmps180;go_wp2;go_ret;exact⟨rfl,rfl⟩
  ·have k0:(l==[])=false:=aN h;have k1:(l != [])=true:=by rw[bne,k0];rfl
   rw[k1];go_enter Tryz.func180,Tryz.ntmps180;go_wp2_with (
     (go_at_call 203;refine(po l 0 _ (by omega) hl).mono ?_;rintro e w1 ⟨rfl,rfl⟩))
   go_ret;exact⟨by rw[cN];exact iU (by rw[cT];simp only[bA];omega),rfl⟩
theorem Hj (hl:l.length≤100000):Calls Tryz.prog 204 #[.string ⟨l.toArray⟩] w fun e w'=>(∃a b,e=.returned (.tuple #[a,b,.bool (kK l)]))∧∃n,w'=w.drewN n:=by
  obtain⟨n,hn⟩:∃n,n=uZ l 0:=⟨_,rfl⟩;have hle:n≤l.length:=by have:=wA l 0;omega
  have hc:∀W,ls 203 #[.string ⟨l.toArray⟩,.int .i64 0] W (.int .i64 (n:Int)):=fun W=>by rw[hn];exact po l 0 W (by omega) hl
  unfold kK;rw[←hn];have HC:=ac hc;clear hc hn;by_cases h0:n=0
  ·subst h0;go_enter Tryz.func204,Tryz.ntmps204;go_wp2_with (
     (go_at_call 203;with_reducible refine(HC.out _).mono ?_
      rintro e w1 ⟨rfl,rfl⟩))
   go_ret3;exact⟨⟨_,_,rfl⟩,0,rfl⟩
  ·have k0:((n:Int)==0)=false:=aN (by omega);have k0':(n != 0)=true:=by simp[h0]
   rw[k0',cN];by_cases h1:n=l.length
   ·have k1:((n:Int)==(l.length:Int))=true:=by simp[h1]
    have k1':(n != l.length)=false:=by simp[h1]
    rw[k1',dC];clear h1;go_enter Tryz.func204,Tryz.ntmps204;go_wp2_with (
      (go_at_call 203;with_reducible refine(HC.out _).mono ?_
       rintro e w1 ⟨rfl,rfl⟩))
    go_ret3;exact⟨⟨_,_,rfl⟩,0,rfl⟩
   ·have k1:((n:Int)==(l.length:Int))=false:=aN (by omega);have k1':(n != l.length)=true:=by simp[h1]
    rw[k1',cN];have hlt:n<l.length:=by omega
    obtain⟨cc,hcc⟩:∃cc,cc=l[n]:=⟨_,rfl⟩;have hg:l.getD n 0=cc:=by rw[hcc,aF,ax hlt];rfl
    rw[hg];have g1:n<(ByteArray.mk l.toArray).size:=hlt;have g2:(ByteArray.mk l.toArray)[n]'g1=cc:=hcc.symm;have u1:(n:Int)<(l.length:Int):=by omega
    have u2:(0:Int)≤(n:Int):=by omega
    have u3:(n:Int)≤(l.length:Int):=by omega
    have u4:IntKind.i64.wrap ((n:Int)+1)=(n:Int)+1:=aO _ (by omega);have u5:(n:Int)+1≤(l.length:Int):=by omega
    have u6:(0:Int)≤(n:Int)+1:=by omega
    clear h1 h0 hg hcc;obtain⟨b,hb⟩:∃b,b=(cc==61):=⟨_,rfl⟩;have k2:((cc.toNat:Int)==61)=b:=by
      rw[hb,cT];simp only[bA];exact⟨fun h=>dE.1 (by show cc.toNat=61;omega),fun h=>by rw[h];rfl⟩
    have k3:((cc.toNat:Int)!=61) = !b:=by rw[bne,k2]
    rw[←hb];clear hb
    cases b;all_goals (
      go_enter Tryz.func204,Tryz.ntmps204
      go_wp2_with (first
        | (go_at_call 203;with_reducible refine(HC.out _).mono ?_
           rintro e w1 ⟨rfl,rfl⟩)
        | fail)
      try go_quiet (fail)
      try go_wp2
      go_ret3;exact⟨⟨_,_,rfl⟩,by first|exact⟨0,rfl⟩|exact⟨_,rfl⟩⟩)
theorem vy (hl:l.length≤100000):jJ 184 #[.string ⟨l.toArray⟩] w (.bool (kK l)):=by
  obtain⟨b,hb⟩:∃b,b=kK l:=⟨_,rfl⟩;have hc:∀W,Calls Tryz.prog 204 #[.string ⟨l.toArray⟩] W fun e w'=>(∃x y,e=.returned (.tuple #[x,y,.bool b]))∧∃n,w'=W.drewN n:=fun W=>by rw[hb];exact Hj l W hl
  rw[←hb];have HC:=ac hc;clear hc hb;go_enter Tryz.func184,Tryz.ntmps184;go_wp2_with (
    (go_at_call 204;with_reducible refine(HC.out _).mono ?_
     rintro e w1 ⟨⟨x,y,rfl⟩,n,rfl⟩))
  go_ret;exact⟨rfl,dX (ay _ w) n⟩
theorem jc {a:Addr} {v:Value} (h:Below W.heap.size W w') (hc:W.cell? a=some v):w'.cell? a=some v:=(h.cell (jS hc)).trans hc
structure FB (F:List Lf):Prop where
  n:F.length≤900
  t:∀x∈F,x.tx.length≤1000
theorem FJ (x:Lf):(KZ x).length=4:=rfl
theorem gZ {w:World} {c:Nat} {x:Lf} (h:Rd w B 4 (.slice A n c) n (gv F)) (hq:F[q]? = some x) (hn:n=F.length) :
    ∃g o,A=some ⟨g,o,none⟩∧w.cell? ⟨g,o+q*4,none⟩=some (.int .i64 x.kd)∧w.cell? ⟨g,o+q*4+1,none⟩=some (.string ⟨x.tx.toArray⟩)∧w.cell? ⟨g,o+q*4+2,none⟩=some (.int .i64 x.fr)∧w.cell? ⟨g,o+q*4+3,none⟩=some (.int .i64 x.to):=by
  obtain⟨g,o,h1,_,hc⟩:=fW FJ h hq hn;exact⟨g,o,h1,hc 0 _ rfl,hc 1 _ rfl,hc 2 _ rfl,hc 3 _ rfl⟩
theorem ny (hF:FB F) (h:Mk g fv F s W) (hs:s.p≤F.length) (k:Int) (q:Nat) (hq:(s.p:Int)+k=(q:Int)) (hk:k=0∨k=1) :
    jJ 61 #[.pointer (some ⟨g,0,none⟩),.int .i64 k] W (.int .u8 ((sg F q).toNat:Int)):=by
  obtain⟨lv,hb,_⟩:=h.w;obtain⟨c0,c1,_,_,_⟩:=hb.fivem;obtain⟨A,c,rfl⟩:=h.f.formm;have hn:=hF.n;have v1:IntKind.i64.wrap ((s.p:Int)+k)=(q:Int):=by rw[aO _ (by omega)];exact hq
  have hfr:=h.f;clear hq hk;by_cases hlt:q<F.length
  ·obtain⟨x,hx⟩:∃x,F[q]? = some x:=⟨_,ax hlt⟩;have hsg:sg F q=sA x:=by unfold sg;rw[hx]
   obtain⟨g1,o1,rfl,y0,y1,y2,y3⟩:=gZ hfr hx rfl;have u1:(q:Int)<(F.length:Int):=by omega
   have u2:(0:Int)≤(q:Int):=by omega
   have d1:decide ((F.length:Int)≤(q:Int))=false:=aE (by omega);have HX:=ac (ae hsg (hF.t x (aI hx)));clear hsg hx hfr hn hs h hb;rw[HX.out.1];go_enter Tryz.func61,Tryz.ntmps61;go_wp2;go_quiet (fail);go_wp2;have c0':(W.drewN nq).cell? ⟨g,0,none⟩=some (.slice (some ⟨g1,o1,none⟩) F.length c):=c0;have c1':(W.drewN nq).cell? ⟨g,1,none⟩=some (.int .i64 (s.p:Int)):=c1;have y0':(W.drewN nq).cell? ⟨g1,o1+q*4,none⟩=some (.int .i64 x.kd):=y0;have y1':(W.drewN nq).cell? ⟨g1,o1+q*4+1,none⟩=some (.string ⟨x.tx.toArray⟩):=y1;have y2':(W.drewN nq).cell? ⟨g1,o1+q*4+2,none⟩=some (.int .i64 x.fr):=y2;have y3':(W.drewN nq).cell? ⟨g1,o1+q*4+3,none⟩=some (.int .i64 x.to):=y3;have hb0:Below W.heap.size W (W.drewN nq):=dX (ay _ W) nq;clear c0 c1 y0 y1 y2 y3;generalize W.drewN nq=W1 at *
   go_region_held3 (fun w'=>w'.cell? ⟨g,0,none⟩=some (.slice (some ⟨g1,o1,none⟩) F.length c)∧w'.cell? ⟨g,1,none⟩=some (.int .i64 (s.p:Int))∧w'.cell? ⟨g1,o1+q*4,none⟩=some (.int .i64 x.kd)∧w'.cell? ⟨g1,o1+q*4+1,none⟩=some (.string ⟨x.tx.toArray⟩)∧w'.cell? ⟨g1,o1+q*4+2,none⟩=some (.int .i64 x.fr)∧w'.cell? ⟨g1,o1+q*4+3,none⟩=some (.int .i64 x.to))
    (first|with_reducible exact⟨c0',c1',y0',y1',y2',y3'⟩|exact⟨c0',c1',y0',y1',y2',y3'⟩)
    (
     (go_at_call 60;refine(Eh x _ (by have:=HX.out.2;omega)).mono ?_;rintro e w2 ⟨rfl,hb2⟩;have H2:=ac (hb0.trans (((ay _ W1).drew.trans hb2).mono hb0.size));have c0':=jc hb2 c0';have c1':=jc hb2 c1';have y0':=jc hb2 y0';have y1':=jc hb2 y1';have y2':=jc hb2 y2';have y3':=jc hb2 y3';clear hb2))
   go_wp2;go_ret;exact⟨rfl,H2.out⟩
  ·have hsg:sg F q=0:=by unfold sg;rw[bI (by omega)]
   have d1:(F.length:Int)≤(q:Int):=by omega
   rw[hsg];clear hfr hn hs h hb hsg;go_enter Tryz.func61,Tryz.ntmps61;go_wp2;go_quiet (fail);go_wp2;go_ret;exact⟨rfl,dX (ay _ W) nq⟩
theorem NF (W:World):AZ 117 #[.string ⟨l.toArray⟩,.int .u8 (c.toNat:Int)] W (.int .i64 (Lib.indexByte l c)):=by
  refine(BX _ _ W).mono ?_;rintro e w' ⟨rfl,rfl⟩;rw[bJ,Nat.toUInt8_eq,UInt8.ofNat_toNat];exact⟨rfl,rfl⟩
theorem JJ:decide ((0:Int)≤Lib.indexByte l c)=l.contains c:=by
  induction l with
  | nil=>rfl
  | cons b l ih=>
    have hg:=Lib.indexByte_ge l c;unfold Lib.indexByte;by_cases hb:(b==c)=true
    ·rw[aB hb];have e:b=c:=by simpa using hb
     subst e;simp
    ·rw[aC hb];have e:(c==b)=false:=by
       rw[aK];exact fun h=>hb (by rw[h];simp)
     rw[List.contains_cons,e,Bool.false_or,←ih];by_cases h1:Lib.indexByte l c = -1
     ·rw[h1];rfl
     ·rw[aC (by simpa using h1)];rw[cT,decide_eq_true_iff,decide_eq_true_iff];omega
theorem sY (hF:FB F) (h:Mk g fv F s W) (hs:s.p≤F.length) (cs:List UInt8) (hcs:cs.contains 0=false) :
    jJ 91 #[.pointer (some ⟨g,0,none⟩),.string ⟨cs.toArray⟩] W (.bool (ef F cs s)):=by
  have c1:=ny hF h hs 0 s.p (by omega) (.inl rfl);unfold ef;obtain⟨c,hc⟩:∃c,c=sg F s.p:=⟨_,rfl⟩;rw[←hc] at c1 ⊢;have HC:=ac c1;have c2:=fun W=>NF cs c W
  have HI:=ac c2;clear c1 c2 hc h hs;by_cases h0:c=0
  ·subst h0;rw[hcs];go_enter Tryz.func91,Tryz.ntmps91;go_wp2_with (
     (go_at_call 61;with_reducible refine HC.out.mono ?_
      rintro e w1 ⟨rfl,hb⟩;have H1:=ac hb;clear hb))
   go_ret;exact⟨rfl,H1.out⟩
  ·have k0:((c.toNat:Int)==0)=false:=by
     rw[aK];exact fun e=>h0 (dE.1 (by show c.toNat=0;omega))
   have k2:((c.toNat:Int)!=0)=true:=by rw[bne,k0];rfl
   obtain⟨b,hb⟩:∃b,b=cs.contains c:=⟨_,rfl⟩;have k1:decide ((0:Int)≤Lib.indexByte cs c)=b:=(JJ cs c).trans hb.symm;rw[←hb];clear hb;go_enter Tryz.func91,Tryz.ntmps91
   go_wp2_with (first
     | (go_at_call 61;with_reducible refine HC.out.mono ?_
        rintro e w1 ⟨rfl,hb⟩;have H1:=ac hb;clear hb)
     | (go_at_call 117;with_reducible refine(HI.out _).mono ?_
        rintro e w2 ⟨rfl,rfl⟩))
   go_ret;exact⟨rfl,H1.out⟩
theorem tk {a:Act} {w:World} (hS:S w) (hv:∀w,S w→(execOp a.eval oi).run P w=.ok (.value v) w) (h:wpAnyH P md ops Q S fuel (listed.setIfInBounds i true) (a.put oi.dst v) w) (hi:ops[i]? = some oi:=by exact rfl) (hs:Region.noSelect ops=true:=by decide +kernel) (hf:Region.free md ops listed i=true:=by decide +kernel) (hr:(Region.ready md ops listed).contains i=true:=by decide +kernel) (hQ:∀c a w,Q (.panic c) (a.put oi.dst v) w→Q (.panic c) a w:=by exact fun _ _ _ h=>h) (hw:Region.wanted oi (yielded ops a.tmps)=true:=by rfl):wpAnyH P md ops Q S (fuel+1) listed a w:=wpAnyH_take hi hs hf hr hQ (.inl ⟨hw,hv⟩) hS h
theorem sk {a:Act} {w:World} (hS:S w) (h:wpAnyH P md ops Q S fuel (listed.setIfInBounds i true) (a.put oi.dst undef) w) (hi:ops[i]? = some oi:=by exact rfl) (hs:Region.noSelect ops=true:=by decide +kernel) (hf:Region.free md ops listed i=true:=by decide +kernel) (hr:(Region.ready md ops listed).contains i=true:=by decide +kernel) (hQ:∀c a w,Q (.panic c) (a.put oi.dst undef) w→Q (.panic c) a w:=by exact fun _ _ _ h=>h) (hw:Region.wanted oi (yielded ops a.tmps)=false:=by rfl):wpAnyH P md ops Q S (fuel+1) listed a w:=wpAnyH_take hi hs hf hr hQ (.inr ⟨hw,rfl⟩) hS h
structure Mz (g:Nat) (fv:Value) (F:List Lf) (W:World) (t:Ps) (w':World):Prop where
  m:Mk g fv F t w'
  f:Fg g W w'
abbrev lw (f:FuncId) (g:Nat) (fv:Value) (F:List Lf) (W:World) (r:Value) (t:Ps):Prop:=Calls Tryz.prog f #[.pointer (some ⟨g,0,none⟩)] W fun e w'=>e=.returned r∧Mz g fv F W t w'
theorem Mz.of {W:World} (h:Mk g fv F t W1∧Fg g w' W1):Mz g fv F w' t W1:=⟨h.1,h.2⟩
theorem Mz.start (h:Mk g fv F s W):Mz g fv F W s W:=⟨h,Fg.refl _ _⟩
theorem Mz.next (h:Mz g fv F W s W1) (hb:Below W1.heap.size W1 w'):Mz g fv F W s w':=⟨(h.m.next hb).1,h.f.trans (h.m.next hb).2⟩
theorem Mz.then (h:Mz g fv F W s W1) (k:Mz g fv F W1 t w'):Mz g fv F W t w':=⟨k.m,h.f.trans k.f⟩
theorem Mz.k {Q:Ending→World→Prop} (U:Hid (Mz g fv F W s W1)) (k:∀w',Hid (Mz g fv F W t w')→Q (.returned r) w') (e:Ending) (w':World) (h:e=.returned r∧Mz g fv F W1 t w'):Q e w':=by
  obtain⟨rfl,hz⟩:=h;exact k _ (ac (U.out.then hz))
theorem Mz.drew (h:Mz g fv F W s W1) (n:Nat):Mz g fv F W s (W1.drewN n):=h.next (dX (ay _ _) n)
theorem Mz.setP (h:Mz g fv F W s W1) (p:Nat):Mz g fv F W {s with p:=p} (W1.setCell ⟨g,1,none⟩ (.int .i64 (p:Int))):=⟨(h.m.setP p).1,h.f.trans (h.m.setP p).2⟩
theorem Mz.setUp (h:Mz g fv F W s W1) (u:Int):Mz g fv F W {s with up:=u} (W1.setCell ⟨g,3,none⟩ (.int .i64 u)):=⟨(h.m.setUp u).1,h.f.trans (h.m.setUp u).2⟩
theorem Mz.setDeep (h:Mz g fv F W s W1) (d:Nat):Mz g fv F W {s with deep:=d} (W1.setCell ⟨g,4,none⟩ (.int .i64 (d:Int))):=⟨(h.m.setDeep d).1,h.f.trans (h.m.setDeep d).2⟩
theorem Mk.cells (h:Mk g fv F s W):W.cell? ⟨g,0,none⟩=some fv∧W.cell? ⟨g,1,none⟩=some (.int .i64 (s.p:Int))∧W.cell? ⟨g,3,none⟩=some (.int .i64 s.up)∧W.cell? ⟨g,4,none⟩=some (.int .i64 (s.deep:Int)) ∧
    W.frozen? ⟨g,1,none⟩=false∧W.frozen? ⟨g,2,none⟩=false∧W.frozen? ⟨g,3,none⟩=false∧W.frozen? ⟨g,4,none⟩=false:=by
  obtain⟨lv,hb,_⟩:=h.w;obtain⟨c0,c1,_,c3,c4⟩:=hb.fivem;exact⟨c0,c1,c3,c4,hb.frozen _,hb.frozen _,hb.frozen _,hb.frozen _⟩
theorem lU (hF:FB F) (h:Mk g fv F s W) (hs:s.p≤F.length) (cs:List UInt8) (hcs:cs.contains 0=false) :
    Calls Tryz.prog 73 #[.pointer (some ⟨g,0,none⟩),.string ⟨cs.toArray⟩] W fun e w'=>e=.returned (.bool (ef F cs s))∧Mz g fv F W (eG F cs s) w':=by
  have c1:=sY hF h hs cs hcs;have hn:=hF.n;obtain⟨b,hb⟩:∃b,b=ef F cs s:=⟨_,rfl⟩;unfold eG;rw[←hb] at c1 ⊢;have HC:=ac (ae c1 h);clear c1 h hb;have v1:IntKind.i64.wrap ((s.p:Int)+1)=((s.p+1:Nat):Int):=by rw[aO _ (by omega)];omega
  cases b;all_goals (
    go_enter Tryz.func73,Tryz.ntmps73;go_wp2_with (
      (go_at_call 91;with_reducible refine HC.out.1.mono ?_
       rintro e w1 ⟨rfl,hb⟩;have H1:=ac ((Mz.start HC.out.2).next hb);obtain⟨c0,c1,c3,c4,f1,f2,f3,f4⟩:=H1.out.m.cells;clear hb))
    go_ret;refine⟨rfl,?_⟩)
  ·exact H1.out
  ·exact H1.out.setP (s.p+1)
theorem iT (d:UInt8):((c.toNat:Int)==(d.toNat:Int))=(c==d):=by
  rw[cT];simp only[bA];exact⟨fun h=>dE.1 (by omega),fun h=>by rw[h]⟩
theorem nC (hF:FB F) (h:Mk g fv F s W) (hs:s.p≤F.length) :
    jJ 83 #[.pointer (some ⟨g,0,none⟩)] W (.bool (eS F s)):=by
  have c0:=fun W (h:Mk g fv F s W)=>ny hF h hs 0 s.p (by omega) (.inl rfl)
  have c1:=fun W (h:Mk g fv F s W)=>ny hF h hs 1 (s.p+1) (by omega) (.inr rfl)
  obtain⟨a,ha⟩:∃a,a=sg F s.p:=⟨_,rfl⟩;obtain⟨b,hb⟩:∃b,b=sg F (s.p+1):=⟨_,rfl⟩;unfold eS;rw[←ha,←hb];rw[←ha] at c0;rw[←hb] at c1;have k1:((a.toNat:Int)==60)=(a==60):=iT a 60;have k2:((a.toNat:Int)==35)=(a==35):=iT a 35;have k3:((b.toNat:Int)==60)=(b==60):=iT b 60;have HC:=ac (ae c0 (ae c1 h));clear c0 c1 h ha hb;generalize (a==60)=x1 at *;generalize (a==35)=x2 at *;generalize (b==60)=x3 at *;have key:x1=true∨(x1=false∧x2=false)∨(x1=false∧x2=true∧x3=true)∨(x1=false∧x2=true∧x3=false):=by cases x1<;>cases x2<;>cases x3<;>simp
  rcases key with rfl|⟨rfl,rfl⟩|⟨rfl,rfl,rfl⟩|⟨rfl,rfl,rfl⟩
  all_goals (
    go_enter Tryz.func83,Tryz.ntmps83
    go_wp2_with (first
      | (go_at_call 61;with_reducible refine(HC.out.1 _ HC.out.2.2).mono ?_
         rintro e w1 ⟨rfl,hb⟩;have H1:=ac (ae (HC.out.2.2.next hb).1 hb);clear hb)
      | (go_at_call 61;with_reducible refine(HC.out.2.1 _ H1.out.1).mono ?_
         rintro e w2 ⟨rfl,hb⟩;have H2:=ac (H1.out.2.trans (hb.mono H1.out.2.size));clear hb)
      | fail)
    go_ret;exact⟨rfl,by first|exact H2.out|exact H1.out.2⟩)
theorem nU (hF:FB F) (h:Mk g fv F s W) (hs:s.p≤F.length) :
    jJ 84 #[.pointer (some ⟨g,0,none⟩)] W (.bool (gy F s)):=by
  have c0:=sY hF h hs [123,40,105,119,114,99] (by decide);unfold gy;generalize ef F [123,40,105,119,114,99] s=b at *;obtain⟨y0,y1,y3,y4,_⟩:=h.cells;have HC:=ac (ae c0 h);clear c0 h;by_cases hd:s.deep<200
  ·have u1:(s.deep:Int)<200:=by omega
   rw[aG hd,cN];go_enter Tryz.func84,Tryz.ntmps84;go_wp2_with (
     (go_at_call 91;with_reducible refine HC.out.1.mono ?_
      rintro e w1 ⟨rfl,hb⟩;have H1:=ac hb;clear hb))
   go_ret;exact⟨rfl,H1.out⟩
  ·have u1:¬(s.deep:Int)<200:=by omega
   rw[aE hd,dC];go_enter Tryz.func84,Tryz.ntmps84;go_wp2_with fail;go_ret;exact⟨rfl,ay _ _⟩
theorem pE (hF:FB F) (h:Mk g fv F s W) (hs:s.p≤F.length) :
    jJ 62 #[.pointer (some ⟨g,0,none⟩)] W (.bool (lr F s)):=by
  have c0:=ny hF h hs 0 s.p (by omega) (.inl rfl);have c1:=fun W (h:Mk g fv F s W)=>nC hF h hs
  have c2:=fun W (h:Mk g fv F s W)=>nU hF h hs
  unfold lr;generalize sg F s.p=a at *;generalize eS F s=x2 at *;generalize gy F s=x3 at *;have k1:((a.toNat:Int)==120)=(a==120):=iT a 120;generalize (a==120)=x1 at *;have HC:=ac (ae c0 (ae c1 (ae c2 h)));clear c0 c1 c2 h;have key:x1=true∨(x1=false∧x2=true)∨(x1=false∧x2=false):=by cases x1<;>cases x2<;>simp
  rcases key with rfl|⟨rfl,rfl⟩|⟨rfl,rfl⟩
  all_goals (
    go_enter Tryz.func62,Tryz.ntmps62
    go_wp2_with (first
      | (go_at_call 61;with_reducible refine HC.out.1.mono ?_
         rintro e w1 ⟨rfl,hb⟩;have H1:=ac (ae (HC.out.2.2.2.next hb).1 hb);clear hb)
      | (go_at_call 83;with_reducible refine(HC.out.2.1 _ H1.out.1).mono ?_
         rintro e w2 ⟨rfl,hb⟩;have H2:=ac (ae (H1.out.1.next hb).1 (H1.out.2.trans (hb.mono H1.out.2.size)));clear hb)
      | (go_at_call 84;with_reducible refine(HC.out.2.2.1 _ H2.out.1).mono ?_
         rintro e w3 ⟨rfl,hb⟩;have H3:=ac (H2.out.2.trans (hb.mono H2.out.2.size));clear hb)
      | fail)
    go_ret;exact⟨rfl,by first|exact H3.out|exact H2.out.2|exact H1.out.2⟩)
theorem vY (hF:FB F) (h:Mk g fv F s W) (hs:s.p≤F.length) :
    jJ 39 #[.pointer (some ⟨g,0,none⟩)] W (.bool (eN F s)):=by
  have c0:=ny hF h hs 0 s.p (by omega) (.inl rfl);have c1:=fun W (h:Mk g fv F s W)=>pE hF h hs
  unfold eN;generalize sg F s.p=a at *;generalize lr F s=x2 at *;have k1:((a.toNat:Int)==33)=(a==33):=iT a 33;generalize (a==33)=x1 at *;have HC:=ac (ae c0 (ae c1 h));clear c0 c1 h
  cases x1;all_goals (
    go_enter Tryz.func39,Tryz.ntmps39
    go_wp2_with (first
      | (go_at_call 61;with_reducible refine HC.out.1.mono ?_
         rintro e w1 ⟨rfl,hb⟩;have H1:=ac (ae (HC.out.2.2.next hb).1 hb);clear hb)
      | (go_at_call 62;with_reducible refine(HC.out.2.1 _ H1.out.1).mono ?_
         rintro e w2 ⟨rfl,hb⟩;have H2:=ac (H1.out.2.trans (hb.mono H1.out.2.size));clear hb)
      | fail)
    go_ret;exact⟨rfl,by first|exact H2.out|exact H1.out.2⟩)
theorem mt (hF:FB F) (h:Mk g fv F s W) (hs:s.p≤F.length) :
    jJ 183 #[.pointer (some ⟨g,0,none⟩)] W (.bool (iw F s.p)):=by
  obtain⟨c0,c1,_⟩:=h.cells;obtain⟨A,c,rfl⟩:=h.f.formm;have hn:=hF.n;have hfr:=h.f;clear h;unfold iw;obtain⟨q,hq⟩:∃q,q=s.p:=⟨_,rfl⟩;rw[←hq] at c1 hs ⊢;clear hq;by_cases hlt:q<F.length
  ·obtain⟨x,hx⟩:∃x,F[q]? = some x:=⟨_,ax hlt⟩;rw[hx];obtain⟨g1,o1,rfl,y0,y1,y2,y3⟩:=gZ hfr hx rfl;have u1:(q:Int)<(F.length:Int):=by omega
   have u2:(0:Int)≤(q:Int):=by omega
   simp only;clear hx hfr hn hs;go_enter Tryz.func183,Tryz.ntmps183;go_wp2;have d1:decide ((q:Int)<(F.length:Int))=true:=aG u1;go_quiet (fail);go_wp2;go_ret;exact⟨rfl,dX (ay _ W) _⟩
  ·rw[bI (by omega)];have u1:¬(q:Int)<(F.length:Int):=by omega
   simp only;clear hfr hn hs;go_enter Tryz.func183,Tryz.ntmps183;go_wp2;have d1:decide ((q:Int)<(F.length:Int))=false:=aE (by omega);go_quiet (fail);go_wp2;go_ret;exact⟨rfl,dX (ay _ W) _⟩
end Go.Proofs.YtmclohkaiemnaaaGreatDoor
