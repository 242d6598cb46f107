/- The parser's memory: the box of a maker, the leaves that it reads and the nodes that it has made. -/
import Derived.Test.YtcagfamdoaoimaaGreatDoorPl13
import Derived.Test.YtcagfamdoaoimaaGreatDoorOp9
import Derived.Test.YtcagfamdoaoimaaGreatDoorMem
import Derived.Test.YtcagfamdoaoimaaGreatDoorTk9
import Derived.OwnWalk
set_option linter.unusedVariables false
set_option linter.unusedSimpArgs false
set_option maxRecDepth 100000
set_option maxHeartbeats 8000000
namespace Go.Proofs.YtcagfamdoaoimaaGreatDoor
open Go.RowKit
variable {listed:Array Bool} {ops:Array Oper} {cs:Array Value} {Q:Exit→Act→World→Prop} {F:List Lf} {xs:List Value} {B g n sz ga q fuel:Nat} {oi:Oper} {A:Option Addr} {P:Program} {s t:Ps} {md:Region.Mode} {fv lv v' x0 x1 x2 x3 x4 r:Value} {a w' W b W' W1:World} {S:World→Prop} (l:List UInt8) (i:Nat) (L:List Nd) (x:Nd) (v:Value) (M:List Nd) (c:UInt8) (w:World)
theorem MA {w:World} (h:Below B a w) (hg:w.grownBy w' (some g)) (hB:B≤w.heap.size) (hr:B≤g):Below B a w':=
  h.grown hg hB (fun k e=>by injection e with e;omega)
def LB (x:Nd):List Value:=[.int .i64 (x.kd:Int),.int .i64 (x.fr:Int),.int .i64 (x.tt:Int),.int .i64 x.up]
theorem jk:(LB x).length=4:=rfl
def gQ (L:List Nd):List Value:=L.flatMap LB
theorem yM:gQ (L++M)=gQ L++gQ M:=by simp[gQ]
theorem yL:(gQ L).length=L.length*4:=by
  induction L with
  | nil=>rfl
  | cons x L ih=>show (LB x++gQ L).length=_;rw[aH,ih,jk,aP];omega
theorem FS:∀u∈gQ [x],u.oneCell'=true:=by
  intro u hu;simp[gQ,LB] at hu;rcases hu with rfl|rfl|rfl|rfl<;>rfl
theorem wR:∀(L:List Nd) (i t:Nat),i<L.length→(gQ L).set (i*4+2) (.int .i64 (t:Int))=gQ (iQ L i t)
  | [],i,t,h=>by simp at h
  | x::L,0,t,h=>rfl
  | x::L,i+1,t,h=>by
    have ih:=wR L i t (by simpa using h);show (LB x++gQ L).set _ _=LB x++gQ (iQ L i t);rw[←ih,List.set_append_right _ _ (by rw[jk];omega),jk,show (i+1)*4+2-4=i*4+2 by omega]
structure Fg (g:Nat) (W W':World):Prop where
  hb:Below g W W'
  kt:KT [88,56] W W'
theorem Fg.refl (g:Nat) (W:World):Fg g W W:=⟨aC _ _,KT.refl _ _⟩
theorem Fg.trans {c:World} (h:Fg g a b) (k:Fg g b c):Fg g a c:=⟨h.hb.trans k.hb,h.kt.trans k.kt⟩
theorem Fg.of (hb:Below W.heap.size W W') (hg:g≤W.heap.size):Fg g W W':=⟨hb.mono hg,KT.of_below hb⟩
structure Mk (g:Nat) (fv:Value) (F:List Lf) (s:Ps) (W:World):Prop where
  w:∃lv,Bk W g 88 #[fv,.int .i64 (s.p:Int),lv,.int .i64 s.up,.int .i64 (s.deep:Int)]∧W.ownsRow g 56 4 lv s.l.length (gQ s.l)
  f:Rd W g 4 fv F.length (iF F)
theorem Mk.lt (h:Mk g fv F s W):g<W.heap.size:=by
  obtain⟨lv,h1,_⟩:=h.w;exact h1.lt
theorem Mk.next (h:Mk g fv F s W) (hb:Below W.heap.size W W'):Mk g fv F s W'∧Fg g W W':=by
  obtain⟨lv,h1,h2⟩:=h.w;exact⟨⟨⟨lv,h1.below hb h1.lt,dS h2 hb⟩,h.f.keep (hb.mono (bq h1.lt)) (au _)⟩,.of hb (bq h1.lt)⟩
theorem uv (h:Bk W g 88 cs) (i:Nat) (v:Value):Fg g W (W.setCell ⟨g,i,none⟩ v):=
  ⟨MA (aC _ _) (ef (fD W (some g)) i v) (bq h.lt) (au _),(KT.refl _ W).setCell h (by decide) i v⟩
theorem wN (h:Bk W g 88 cs) (k:W.ownsRow g 56 4 lv n xs) (i:Nat) (v:Value):(W.setCell ⟨g,i,none⟩ v).ownsRow g 56 4 lv n xs:=
  ff k (eQ k h (by decide)) v
theorem BX (h:Bk W g 88 cs) (k:Rd W g 4 fv n xs) (i:Nat) (v:Value):Rd (W.setCell ⟨g,i,none⟩ v) g 4 fv n xs:=
  k.keep (uv h i v).hb (au _)
theorem Rd.formm {w:World} {v:Value} (h:Rd w B sz v n xs):∃A c,v=.slice A n c:=by
  obtain⟨_,A,c,h2,_⟩:=h;exact⟨A,c,h2⟩
theorem Mk.setP (h:Mk g fv F s W) (p:Nat):Mk g fv F {s with p:=p} (W.setCell ⟨g,1,none⟩ (.int .i64 (p:Int)))∧Fg g W (W.setCell ⟨g,1,none⟩ (.int .i64 (p:Int))):=by
  obtain⟨lv,h1,h2⟩:=h.w;exact⟨⟨⟨lv,h1.set 1 _,wN h1 h2 _ _⟩,BX h1 h.f _ _⟩,uv h1 _ _⟩
theorem Mk.setUp (h:Mk g fv F s W) (u:Int):Mk g fv F {s with up:=u} (W.setCell ⟨g,3,none⟩ (.int .i64 u))∧Fg g W (W.setCell ⟨g,3,none⟩ (.int .i64 u)):=by
  obtain⟨lv,h1,h2⟩:=h.w;exact⟨⟨⟨lv,h1.set 3 _,wN h1 h2 _ _⟩,BX h1 h.f _ _⟩,uv h1 _ _⟩
theorem Mk.setDeep (h:Mk g fv F s W) (d:Nat):Mk g fv F {s with deep:=d} (W.setCell ⟨g,4,none⟩ (.int .i64 (d:Int)))∧Fg g W (W.setCell ⟨g,4,none⟩ (.int .i64 (d:Int))):=by
  obtain⟨lv,h1,h2⟩:=h.w;exact⟨⟨⟨lv,h1.set 4 _,wN h1 h2 _ _⟩,BX h1 h.f _ _⟩,uv h1 _ _⟩
theorem Mk.setTo {c:Nat} (h1:Bk W g 88 #[fv,.int .i64 (s.p:Int),.slice (some ⟨ga,0,none⟩) n c,.int .i64 s.up,.int .i64 (s.deep:Int)]) (h2:W.ownsRow g 56 4 (.slice (some ⟨ga,0,none⟩) n c) s.l.length (gQ s.l)) (hf:Rd W g 4 fv F.length (iF F)) (i t:Nat) (hi:i<s.l.length) :
    Mk g fv F {s with l:=iQ s.l i t} (W.setCell ⟨ga,i*4+2,none⟩ (.int .i64 (t:Int)))∧Fg g W (W.setCell ⟨ga,i*4+2,none⟩ (.int .i64 (t:Int))):=by
  have hne:ga≠g:=fun e=>eQ h2 h1 (by decide) (by rw[e];rfl)
  obtain⟨e1,_,_,e4,e5⟩:=gM h2;subst e1;have hh:=mi h2;have hs:=mP h2 (i*4+2) (.int .i64 (t:Int));rw[wR _ _ _ hi] at hs;have hg:=ef (fD W (some ga)) (i*4+2) (.int .i64 (t:Int))
  refine⟨⟨⟨_,h1.grown hg (fun e=>hne (by injection e with e;exact e.symm)),by show World.ownsRow _ _ _ _ _ (iQ _ _ _).length _;rw[gX];exact hs⟩,hf.keep (MA (aC _ _) hg (bq h1.lt) e4) (au _)⟩,
    ⟨MA (aC _ _) hg (bq h1.lt) e4,(KT.refl _ W).setCell hh (by decide) _ _⟩⟩
theorem Mk.push {x:Nd} (h1:Bk W g 88 #[fv,.int .i64 (s.p:Int),lv,.int .i64 s.up,.int .i64 (s.deep:Int)]) (h2:W.ownsRow g 56 4 lv s.l.length (gQ s.l)) (hf:Rd W g 4 fv F.length (iF F)) (ho:W'.ownsRow g 56 4 v' (s.l.length+1) (gQ s.l++gQ [x])) (hg:W.grownBy W' lv.ownBlock) :
    Mk g fv F {s with l:=s.l++[x]} (W'.setCell ⟨g,2,none⟩ v')∧Fg g W (W'.setCell ⟨g,2,none⟩ v'):=by
  have k1:Bk W' g 88 _:=h1.grown hg (fun e=>eQ h2 h1 (by decide) e.symm);have kfr:Fg g W W':=⟨cQ (aC _ _) hg (bq h1.lt) (fun k hk=>(h2.lt k hk).1),(KT.refl _ W).grown hg (fun k hk=>by obtain⟨cs,t,fr,e1,e2⟩:=lO h2 k hk;exact⟨cs,t,fr,e1,by rw[e2];decide⟩)⟩;have kf:Rd W' g 4 fv F.length (iF F):=hf.keep kfr.hb (au _);rw[←yM] at ho;refine⟨⟨⟨v',k1.set 2 v',?_⟩,BX k1 kf _ _⟩,kfr.trans (uv k1 _ _)⟩;show World.ownsRow _ _ _ _ _ (s.l++[x]).length _;rw[aH];exact wN k1 ho _ _
theorem Bk.fivem {w:World} {t:TypeId} (h:Bk w g t #[x0,x1,x2,x3,x4]):w.cell? ⟨g,0,none⟩=some x0∧w.cell? ⟨g,1,none⟩=some x1∧w.cell? ⟨g,2,none⟩=some x2∧w.cell? ⟨g,3,none⟩=some x3∧w.cell? ⟨g,4,none⟩=some x4:=
  ⟨h.cell 0,h.cell 1,h.cell 2,h.cell 3,h.cell 4⟩
def xH:List (List UInt8×UInt8):=[([33],33),([123],123),([125],125),([105,102],105),([116,104,101,110],116),([101,108,105,102],101),([101,108,115,101],108),([102,105],102),([119,104,105,108,101],119),([117,110,116,105,108],119),([100,111],100),([100,111,110,101],103),([102,111,114],114),([105,110],107),([99,97,115,101],99),([101,115,97,99],122)]
theorem KU:vZ 154 #[.string ⟨l.toArray⟩] w (.int .u8 ((ny l).toNat:Int)):=by
  by_cases h:∃q∈xH,l=q.1
  ·obtain⟨q,hq,rfl⟩:=h;simp only[xH,br,List.not_mem_nil,or_false] at hq;rcases hq with rfl|rfl|rfl|rfl|rfl|rfl|rfl|rfl|rfl|rfl|rfl|rfl|rfl|rfl|rfl|rfl
   all_goals (
     go_enter Tryz.func154,Tryz.ntmps154;go_wp2;go_ret;exact⟨rfl,rfl⟩)
  ·have hn:∀q∈xH,l≠q.1:=fun q hq e=>h ⟨q,hq,e⟩
   clear h;have ev:ny l=120:=by
     unfold ny;simp only[hn ([33],33) (by decide),hn ([123],123) (by decide),hn ([125],125) (by decide),hn ([105,102],105) (by decide),hn ([116,104,101,110],116) (by decide),hn ([101,108,105,102],101) (by decide),hn ([101,108,115,101],108) (by decide),hn ([102,105],102) (by decide),hn ([119,104,105,108,101],119) (by decide),hn ([117,110,116,105,108],119) (by decide),hn ([100,111],100) (by decide),hn ([100,111,110,101],103) (by decide),hn ([102,111,114],114) (by decide),hn ([105,110],107) (by decide),hn ([99,97,115,101],99) (by decide),hn ([101,115,97,99],122) (by decide),or_self,bp]
   rw[ev];have k0:(l==[33])=false:=aJ (hn ([33],33) (by decide));have k1:(l==[123])=false:=aJ (hn ([123],123) (by decide));have k2:(l==[125])=false:=aJ (hn ([125],125) (by decide));have k3:(l==[105,102])=false:=aJ (hn ([105,102],105) (by decide));have k4:(l==[116,104,101,110])=false:=aJ (hn ([116,104,101,110],116) (by decide));have k5:(l==[101,108,105,102])=false:=aJ (hn ([101,108,105,102],101) (by decide));have k6:(l==[101,108,115,101])=false:=aJ (hn ([101,108,115,101],108) (by decide));have k7:(l==[102,105])=false:=aJ (hn ([102,105],102) (by decide));have k8:(l==[119,104,105,108,101])=false:=aJ (hn ([119,104,105,108,101],119) (by decide));have k9:(l==[117,110,116,105,108])=false:=aJ (hn ([117,110,116,105,108],119) (by decide));have k10:(l==[100,111])=false:=aJ (hn ([100,111],100) (by decide));have k11:(l==[100,111,110,101])=false:=aJ (hn ([100,111,110,101],103) (by decide));have k12:(l==[102,111,114])=false:=aJ (hn ([102,111,114],114) (by decide));have k13:(l==[105,110])=false:=aJ (hn ([105,110],107) (by decide));have k14:(l==[99,97,115,101])=false:=aJ (hn ([99,97,115,101],99) (by decide));have k15:(l==[101,115,97,99])=false:=aJ (hn ([101,115,97,99],122) (by decide));clear hn ev;go_enter Tryz.func154,Tryz.ntmps154;go_wp2;go_ret;exact⟨rfl,rfl⟩
theorem vE (l:List UInt8):∀m k,ib l m k≠0→gO (ib l m k)=l
  | 0,_,h=>absurd rfl h
  | m+1,k,h=>by
    unfold ib at h ⊢;by_cases hk:gO k=l
    ·rw[aD hk];exact hk
    ·rw[aB hk] at h ⊢;exact vE l m (k+1) h
theorem Cf {l:List UInt8} (h0:n≠0) (h:iu l=n):l=gO n:=by
  unfold iu at h;split at h
  ·exact absurd h.symm h0
  ·rw[←h];exact(vE l 17 1 (by rw[h];exact h0)).symm
theorem IX (n:Int) (b:Bool) (w:World) (h:(n,b)∈[((0:Int),false),(4,true),(5,true),(6,true),(7,true),(8,true),(9,true),(10,true),(11,true),(12,true),(13,false),(14,false),(15,false),(16,false),(17,false)]):iG 192 #[.int .i64 n] w (.bool b):=by
  simp only[br,List.not_mem_nil,or_false,Prod.mk.injEq] at h;rcases h with ⟨rfl,rfl⟩|⟨rfl,rfl⟩|⟨rfl,rfl⟩|⟨rfl,rfl⟩|⟨rfl,rfl⟩|⟨rfl,rfl⟩|⟨rfl,rfl⟩|⟨rfl,rfl⟩|⟨rfl,rfl⟩|⟨rfl,rfl⟩|⟨rfl,rfl⟩|⟨rfl,rfl⟩|⟨rfl,rfl⟩|⟨rfl,rfl⟩|⟨rfl,rfl⟩
  all_goals (
    go_enter Tryz.func192,Tryz.ntmps192;go_wp2;go_ret;exact⟨rfl,rfl⟩)
theorem AQ (hl:l.length≤1000000):vZ 153 #[.string ⟨l.toArray⟩] w (.int .u8 ((Dk (iu l)).toNat:Int)):=by
  obtain⟨n,hn⟩:∃n,n=iu l:=⟨_,rfl⟩;have h17:n≤17:=by rw[hn];exact Cg l
  have hc:∀W,iG 168 #[.string ⟨l.toArray⟩] W (.int .i64 (n:Int)):=fun W=>by rw[hn];exact wO l W hl
  have HC:=aa hc;have h1:n=13∨n=14∨n=15∨n=16∨n=17→l=gO n:=fun h=>Cf (by omega) hn.symm
  rw[←hn];clear hc hn;have h0:n=0∨n=1∨n=2∨n=3∨n=4∨n=5∨n=6∨n=7∨n=8∨n=9∨n=10∨n=11∨n=12∨n=13∨n=14∨n=15∨n=16∨n=17:=by omega
  rcases h0 with rfl|rfl|rfl|rfl|rfl|rfl|rfl|rfl|rfl|rfl|rfl|rfl|rfl|rfl|rfl|rfl|rfl|rfl
  case' inr.inr.inr.inr.inr.inr.inr.inr.inr.inr.inr.inr.inr.inl=>obtain rfl:=h1 (by omega)
  case' inr.inr.inr.inr.inr.inr.inr.inr.inr.inr.inr.inr.inr.inr.inl=>obtain rfl:=h1 (by omega)
  case' inr.inr.inr.inr.inr.inr.inr.inr.inr.inr.inr.inr.inr.inr.inr.inl=>obtain rfl:=h1 (by omega)
  case' inr.inr.inr.inr.inr.inr.inr.inr.inr.inr.inr.inr.inr.inr.inr.inr.inl=>obtain rfl:=h1 (by omega)
  case' inr.inr.inr.inr.inr.inr.inr.inr.inr.inr.inr.inr.inr.inr.inr.inr.inr=>obtain rfl:=h1 (by omega)
  all_goals (
    clear h1;go_enter Tryz.func153,Tryz.ntmps153
    go_wp2_with (first
      | (go_at_call 168;with_reducible refine(HC.out _).mono ?_
         rintro e w1 ⟨rfl,rfl⟩)
      | (go_at_call 192;refine(IX _ _ _ (by first|exact db .. | (repeat (first|exact db .. | refine bG _ ?_)))).mono ?_;rintro e w2 ⟨rfl,rfl⟩)
      | fail)
    go_ret;exact⟨rfl,rfl⟩)
def LI (x:Lf):Value:=.agg #[.int .i64 x.kd,.string ⟨x.tx.toArray⟩,.int .i64 x.fr,.int .i64 x.to]
theorem K6 (x:Lf) (w:World) (hl:x.tx.length≤1000000):jL 125 #[LI x] w (.int .u8 ((uS x).toNat:Int)):=by
  obtain⟨kd,t,fr,to⟩:=x;unfold LI uS;simp only;replace hl:t.length≤1000000:=hl;have key:kd=2∨kd=4∨kd=5∨kd=6∨(kd≠2∧kd≠4∧kd≠5∧kd≠6):=by omega
  rcases key with rfl|rfl|rfl|rfl|⟨a,b,c,d⟩
  case' inr.inr.inr.inr=>
    rw[aB a,aB b,aB c,aB d];have a:(kd==2)=false:=aJ a;have b:(kd==4)=false:=aJ b;have c:(kd==5)=false:=aJ c;have d:(kd==6)=false:=aJ d
  all_goals (
    go_enter Tryz.func125,Tryz.ntmps125
    go_wp2_with (first
      | (go_at_call 153;refine(AQ t _ hl).mono ?_;rintro e w1 ⟨rfl,rfl⟩)
      | (go_at_call 154;refine(KU t _).mono ?_;rintro e w1 ⟨rfl,rfl⟩)
      | fail)
    go_ret;exact⟨rfl,(aC _ w).alloc (au _) _⟩)
theorem uf (hl:l.length≤100000):vZ 258 #[.string ⟨l.toArray⟩] w (.bool (i4 l)):=by
  unfold i4;by_cases h:l=[]
  ·subst h;go_enter Tryz.func258,Tryz.ntmps258;go_wp2;go_ret;exact⟨rfl,rfl⟩
  ·have k0:(l==[])=false:=aJ h;have k1:(l != [])=true:=by rw[bne,k0];rfl
   rw[k1];go_enter Tryz.func258,Tryz.ntmps258;go_wp2_with (
     (go_at_call 186;refine(pD l 0 _ (by omega) hl).mono ?_;rintro e w1 ⟨rfl,rfl⟩))
   go_ret;exact⟨by rw[cK];exact jT (by rw[bB];simp only[aR];omega),rfl⟩
theorem Hu (hl:l.length≤100000):Calls Tryz.prog 269 #[.string ⟨l.toArray⟩] w fun e w'=>(∃a b,e=.returned (.tuple #[a,b,.bool (lI l)]))∧∃n,w'=w.drewN n:=by
  obtain⟨n,hn⟩:∃n,n=se l 0:=⟨_,rfl⟩;have hle:n≤l.length:=by have:=tY l 0;omega
  have hc:∀W,iG 186 #[.string ⟨l.toArray⟩,.int .i64 0] W (.int .i64 (n:Int)):=fun W=>by rw[hn];exact pD l 0 W (by omega) hl
  unfold lI;rw[←hn];have HC:=aa hc;clear hc hn;by_cases h0:n=0
  ·subst h0;go_enter Tryz.func269,Tryz.ntmps269;go_wp2_with (
     (go_at_call 186;with_reducible refine(HC.out _).mono ?_
      rintro e w1 ⟨rfl,rfl⟩))
   go_ret3;exact⟨⟨_,_,rfl⟩,0,rfl⟩
  ·have k0:((n:Int)==0)=false:=aJ (by omega);have k0':(n != 0)=true:=by simp[h0]
   rw[k0',cK];by_cases h1:n=l.length
   ·have k1:((n:Int)==(l.length:Int))=true:=by simp[h1]
    have k1':(n != l.length)=false:=by simp[h1]
    rw[k1',dF];clear h1;go_enter Tryz.func269,Tryz.ntmps269;go_wp2_with (
      (go_at_call 186;with_reducible refine(HC.out _).mono ?_
       rintro e w1 ⟨rfl,rfl⟩))
    go_ret3;exact⟨⟨_,_,rfl⟩,0,rfl⟩
   ·have k1:((n:Int)==(l.length:Int))=false:=aJ (by omega);have k1':(n != l.length)=true:=by simp[h1]
    rw[k1',cK];have hlt:n<l.length:=by omega
    obtain⟨cc,hcc⟩:∃cc,cc=l[n]:=⟨_,rfl⟩;have hg:l.getD n 0=cc:=by rw[hcc,aE,ax hlt];rfl
    rw[hg];have g1:n<(ByteArray.mk l.toArray).size:=hlt;have g2:(ByteArray.mk l.toArray)[n]'g1=cc:=hcc.symm;have u1:(n:Int)<(l.length:Int):=by omega
    have u2:(0:Int)≤(n:Int):=by omega
    have u3:(n:Int)≤(l.length:Int):=by omega
    have u4:IntKind.i64.wrap ((n:Int)+1)=(n:Int)+1:=aS _ (by omega);have u5:(n:Int)+1≤(l.length:Int):=by omega
    have u6:(0:Int)≤(n:Int)+1:=by omega
    clear h1 h0 hg hcc;obtain⟨b,hb⟩:∃b,b=(cc==61):=⟨_,rfl⟩;have k2:((cc.toNat:Int)==61)=b:=by
      rw[hb,bB];simp only[aR];exact⟨fun h=>dc.1 (by show cc.toNat=61;omega),fun h=>by rw[h];rfl⟩
    have k3:((cc.toNat:Int)!=61) = !b:=by rw[bne,k2]
    rw[←hb];clear hb
    cases b;all_goals (
      go_enter Tryz.func269,Tryz.ntmps269
      go_wp2_with (first
        | (go_at_call 186;with_reducible refine(HC.out _).mono ?_
           rintro e w1 ⟨rfl,rfl⟩)
        | fail)
      try go_quiet (fail)
      try go_wp2
      go_ret3;exact⟨⟨_,_,rfl⟩,by first|exact⟨0,rfl⟩|exact⟨_,rfl⟩⟩)
theorem vW (hl:l.length≤100000):jL 262 #[.string ⟨l.toArray⟩] w (.bool (lI l)):=by
  obtain⟨b,hb⟩:∃b,b=lI l:=⟨_,rfl⟩;have hc:∀W,Calls Tryz.prog 269 #[.string ⟨l.toArray⟩] W fun e w'=>(∃x y,e=.returned (.tuple #[x,y,.bool b]))∧∃n,w'=W.drewN n:=fun W=>by rw[hb];exact Hu l W hl
  rw[←hb];have HC:=aa hc;clear hc hb;go_enter Tryz.func262,Tryz.ntmps262;go_wp2_with (
    (go_at_call 269;with_reducible refine(HC.out _).mono ?_
     rintro e w1 ⟨⟨x,y,rfl⟩,n,rfl⟩))
  go_ret;exact⟨rfl,dN (aC _ w) n⟩
theorem DT {a:Addr} {v:Value} (h:Below W.heap.size W w') (hc:W.cell? a=some v):w'.cell? a=some v:=(h.cell (uX hc)).trans hc
structure FB (F:List Lf):Prop where
  n:F.length≤900
  t:∀x∈F,x.tx.length≤1000
theorem F8 (x:Lf):(LJ x).length=4:=rfl
theorem jl {w:World} {c:Nat} {x:Lf} (h:Rd w B 4 (.slice A n c) n (iF F)) (hq:F[q]? = some x) (hn:n=F.length) :
    ∃g o,A=some ⟨g,o,none⟩∧w.cell? ⟨g,o+q*4,none⟩=some (.int .i64 x.kd)∧w.cell? ⟨g,o+q*4+1,none⟩=some (.string ⟨x.tx.toArray⟩)∧w.cell? ⟨g,o+q*4+2,none⟩=some (.int .i64 x.fr)∧w.cell? ⟨g,o+q*4+3,none⟩=some (.int .i64 x.to):=by
  obtain⟨g,o,h1,_,hc⟩:=iK F8 h hq hn;exact⟨g,o,h1,hc 0 _ rfl,hc 1 _ rfl,hc 2 _ rfl,hc 3 _ rfl⟩
theorem nC (hF:FB F) (h:Mk g fv F s W) (hs:s.p≤F.length) (k:Int) (q:Nat) (hq:(s.p:Int)+k=(q:Int)) (hk:k=0∨k=1) :
    jL 135 #[.pointer (some ⟨g,0,none⟩),.int .i64 k] W (.int .u8 ((sg F q).toNat:Int)):=by
  obtain⟨lv,hb,_⟩:=h.w;obtain⟨c0,c1,_,_,_⟩:=hb.fivem;obtain⟨A,c,rfl⟩:=h.f.formm;have hn:=hF.n;have v1:IntKind.i64.wrap ((s.p:Int)+k)=(q:Int):=by rw[aS _ (by omega)];exact hq
  have hfr:=h.f;clear hq hk;by_cases hlt:q<F.length
  ·obtain⟨x,hx⟩:∃x,F[q]? = some x:=⟨_,ax hlt⟩;have hsg:sg F q=uS x:=by unfold sg;rw[hx]
   obtain⟨g1,o1,rfl,y0,y1,y2,y3⟩:=jl hfr hx rfl;have u1:(q:Int)<(F.length:Int):=by omega
   have u2:(0:Int)≤(q:Int):=by omega
   have d1:decide ((F.length:Int)≤(q:Int))=false:=aL (by omega);have HX:=aa (ac hsg (hF.t x (aO hx)));clear hsg hx hfr hn hs h hb;rw[HX.out.1];go_enter Tryz.func135,Tryz.ntmps135;go_wp2;go_quiet (fail);go_wp2;have c0':(W.drewN nq).cell? ⟨g,0,none⟩=some (.slice (some ⟨g1,o1,none⟩) F.length c):=c0;have c1':(W.drewN nq).cell? ⟨g,1,none⟩=some (.int .i64 (s.p:Int)):=c1;have y0':(W.drewN nq).cell? ⟨g1,o1+q*4,none⟩=some (.int .i64 x.kd):=y0;have y1':(W.drewN nq).cell? ⟨g1,o1+q*4+1,none⟩=some (.string ⟨x.tx.toArray⟩):=y1;have y2':(W.drewN nq).cell? ⟨g1,o1+q*4+2,none⟩=some (.int .i64 x.fr):=y2;have y3':(W.drewN nq).cell? ⟨g1,o1+q*4+3,none⟩=some (.int .i64 x.to):=y3;have hb0:Below W.heap.size W (W.drewN nq):=dN (aC _ W) nq;clear c0 c1 y0 y1 y2 y3;generalize W.drewN nq=W1 at *
   go_region_held3 (fun w'=>w'.cell? ⟨g,0,none⟩=some (.slice (some ⟨g1,o1,none⟩) F.length c)∧w'.cell? ⟨g,1,none⟩=some (.int .i64 (s.p:Int))∧w'.cell? ⟨g1,o1+q*4,none⟩=some (.int .i64 x.kd)∧w'.cell? ⟨g1,o1+q*4+1,none⟩=some (.string ⟨x.tx.toArray⟩)∧w'.cell? ⟨g1,o1+q*4+2,none⟩=some (.int .i64 x.fr)∧w'.cell? ⟨g1,o1+q*4+3,none⟩=some (.int .i64 x.to))
    (first|with_reducible exact⟨c0',c1',y0',y1',y2',y3'⟩|exact⟨c0',c1',y0',y1',y2',y3'⟩)
    (
     (go_at_call 125;refine(K6 x _ (by have:=HX.out.2;omega)).mono ?_;rintro e w2 ⟨rfl,hb2⟩;have H2:=aa (hb0.trans (((aC _ W1).drew.trans hb2).mono hb0.size));have c0':=DT hb2 c0';have c1':=DT hb2 c1';have y0':=DT hb2 y0';have y1':=DT hb2 y1';have y2':=DT hb2 y2';have y3':=DT hb2 y3';clear hb2))
   go_wp2;go_ret;exact⟨rfl,H2.out⟩
  ·have hsg:sg F q=0:=by unfold sg;rw[bY (by omega)]
   have d1:(F.length:Int)≤(q:Int):=by omega
   rw[hsg];clear hfr hn hs h hb hsg;go_enter Tryz.func135,Tryz.ntmps135;go_wp2;go_quiet (fail);go_wp2;go_ret;exact⟨rfl,dN (aC _ W) nq⟩
theorem Nh (W:World):vZ 116 #[.string ⟨l.toArray⟩,.int .u8 (c.toNat:Int)] W (.int .i64 (Lib.indexByte l c)):=by
  refine(Cr _ _ W).mono ?_;rintro e w' ⟨rfl,rfl⟩;rw[Int.toNat_natCast,Nat.toUInt8_eq,UInt8.ofNat_toNat];exact⟨rfl,rfl⟩
theorem JA:decide ((0:Int)≤Lib.indexByte l c)=l.contains c:=by
  induction l with
  | nil=>rfl
  | cons b l ih=>
    have hg:=Lib.indexByte_ge l c;unfold Lib.indexByte;by_cases hb:(b==c)=true
    ·rw[aD hb];have e:b=c:=by simpa using hb
     subst e;simp
    ·rw[aB hb];have e:(c==b)=false:=by
       rw[az];exact fun h=>hb (by rw[h];simp)
     rw[List.contains_cons,e,Bool.false_or,←ih];by_cases h1:Lib.indexByte l c = -1
     ·rw[h1];rfl
     ·rw[aB (by simpa using h1)];rw[bB,decide_eq_true_iff,decide_eq_true_iff];omega
theorem ti (hF:FB F) (h:Mk g fv F s W) (hs:s.p≤F.length) (cs:List UInt8) (hcs:cs.contains 0=false) :
    jL 134 #[.pointer (some ⟨g,0,none⟩),.string ⟨cs.toArray⟩] W (.bool (dQ F cs s)):=by
  have c1:=nC hF h hs 0 s.p (by omega) (.inl rfl);unfold dQ;obtain⟨c,hc⟩:∃c,c=sg F s.p:=⟨_,rfl⟩;rw[←hc] at c1 ⊢;have HC:=aa c1;have c2:=fun W=>Nh cs c W
  have HI:=aa c2;clear c1 c2 hc h hs;by_cases h0:c=0
  ·subst h0;rw[hcs];go_enter Tryz.func134,Tryz.ntmps134;go_wp2_with (
     (go_at_call 135;with_reducible refine HC.out.mono ?_
      rintro e w1 ⟨rfl,hb⟩;have H1:=aa hb;clear hb))
   go_ret;exact⟨rfl,H1.out⟩
  ·have k0:((c.toNat:Int)==0)=false:=by
     rw[az];exact fun e=>h0 (dc.1 (by show c.toNat=0;omega))
   have k2:((c.toNat:Int)!=0)=true:=by rw[bne,k0];rfl
   obtain⟨b,hb⟩:∃b,b=cs.contains c:=⟨_,rfl⟩;have k1:decide ((0:Int)≤Lib.indexByte cs c)=b:=(JA cs c).trans hb.symm;rw[←hb];clear hb;go_enter Tryz.func134,Tryz.ntmps134
   go_wp2_with (first
     | (go_at_call 135;with_reducible refine HC.out.mono ?_
        rintro e w1 ⟨rfl,hb⟩;have H1:=aa hb;clear hb)
     | (go_at_call 116;with_reducible refine(HI.out _).mono ?_
        rintro e w2 ⟨rfl,rfl⟩))
   go_ret;exact⟨rfl,H1.out⟩
theorem tk {a:Act} {w:World} (hS:S w) (hv:∀w,S w→(execOp a.eval oi).run P w=.ok (.value v) w) (h:wpAnyH P md ops Q S fuel (listed.setIfInBounds i true) (a.put oi.dst v) w) (hi:ops[i]? = some oi:=by exact rfl) (hs:Region.noSelect ops=true:=by decide +kernel) (hf:Region.free md ops listed i=true:=by decide +kernel) (hr:(Region.ready md ops listed).contains i=true:=by decide +kernel) (hQ:∀c a w,Q (.panic c) (a.put oi.dst v) w→Q (.panic c) a w:=by exact fun _ _ _ h=>h) (hw:Region.wanted oi (yielded ops a.tmps)=true:=by rfl):wpAnyH P md ops Q S (fuel+1) listed a w:=wpAnyH_take hi hs hf hr hQ (.inl ⟨hw,hv⟩) hS h
theorem sk {a:Act} {w:World} (hS:S w) (h:wpAnyH P md ops Q S fuel (listed.setIfInBounds i true) (a.put oi.dst undef) w) (hi:ops[i]? = some oi:=by exact rfl) (hs:Region.noSelect ops=true:=by decide +kernel) (hf:Region.free md ops listed i=true:=by decide +kernel) (hr:(Region.ready md ops listed).contains i=true:=by decide +kernel) (hQ:∀c a w,Q (.panic c) (a.put oi.dst undef) w→Q (.panic c) a w:=by exact fun _ _ _ h=>h) (hw:Region.wanted oi (yielded ops a.tmps)=false:=by rfl):wpAnyH P md ops Q S (fuel+1) listed a w:=wpAnyH_take hi hs hf hr hQ (.inr ⟨hw,rfl⟩) hS h
structure Mz (g:Nat) (fv:Value) (F:List Lf) (W:World) (t:Ps) (w':World):Prop where
  m:Mk g fv F t w'
  f:Fg g W w'
abbrev lD (f:FuncId) (g:Nat) (fv:Value) (F:List Lf) (W:World) (r:Value) (t:Ps):Prop:=Calls Tryz.prog f #[.pointer (some ⟨g,0,none⟩)] W fun e w'=>e=.returned r∧Mz g fv F W t w'
theorem Mz.start (h:Mk g fv F s W):Mz g fv F W s W:=⟨h,Fg.refl _ _⟩
theorem Mz.next (h:Mz g fv F W s W1) (hb:Below W1.heap.size W1 w'):Mz g fv F W s w':=⟨(h.m.next hb).1,h.f.trans (h.m.next hb).2⟩
theorem Mz.then (h:Mz g fv F W s W1) (k:Mz g fv F W1 t w'):Mz g fv F W t w':=⟨k.m,h.f.trans k.f⟩
theorem Mz.k {Q:Ending→World→Prop} (U:Hid (Mz g fv F W s W1)) (k:∀w',Hid (Mz g fv F W t w')→Q (.returned r) w') (e:Ending) (w':World) (h:e=.returned r∧Mz g fv F W1 t w'):Q e w':=by
  obtain⟨rfl,hz⟩:=h;exact k _ (aa (U.out.then hz))
theorem Mz.drew (h:Mz g fv F W s W1) (n:Nat):Mz g fv F W s (W1.drewN n):=h.next (dN (aC _ _) n)
theorem Mz.setP (h:Mz g fv F W s W1) (p:Nat):Mz g fv F W {s with p:=p} (W1.setCell ⟨g,1,none⟩ (.int .i64 (p:Int))):=⟨(h.m.setP p).1,h.f.trans (h.m.setP p).2⟩
theorem Mz.setUp (h:Mz g fv F W s W1) (u:Int):Mz g fv F W {s with up:=u} (W1.setCell ⟨g,3,none⟩ (.int .i64 u)):=⟨(h.m.setUp u).1,h.f.trans (h.m.setUp u).2⟩
theorem Mz.setDeep (h:Mz g fv F W s W1) (d:Nat):Mz g fv F W {s with deep:=d} (W1.setCell ⟨g,4,none⟩ (.int .i64 (d:Int))):=⟨(h.m.setDeep d).1,h.f.trans (h.m.setDeep d).2⟩
theorem Mk.cells (h:Mk g fv F s W):W.cell? ⟨g,0,none⟩=some fv∧W.cell? ⟨g,1,none⟩=some (.int .i64 (s.p:Int))∧W.cell? ⟨g,3,none⟩=some (.int .i64 s.up)∧W.cell? ⟨g,4,none⟩=some (.int .i64 (s.deep:Int)) ∧
    W.frozen? ⟨g,1,none⟩=false∧W.frozen? ⟨g,2,none⟩=false∧W.frozen? ⟨g,3,none⟩=false∧W.frozen? ⟨g,4,none⟩=false:=by
  obtain⟨lv,hb,_⟩:=h.w;obtain⟨c0,c1,_,c3,c4⟩:=hb.fivem;exact⟨c0,c1,c3,c4,hb.frozen _,hb.frozen _,hb.frozen _,hb.frozen _⟩
theorem lV (hF:FB F) (h:Mk g fv F s W) (hs:s.p≤F.length) (cs:List UInt8) (hcs:cs.contains 0=false) :
    Calls Tryz.prog 100 #[.pointer (some ⟨g,0,none⟩),.string ⟨cs.toArray⟩] W fun e w'=>e=.returned (.bool (dQ F cs s))∧Mz g fv F W (eB F cs s) w':=by
  have c1:=ti hF h hs cs hcs;have hn:=hF.n;obtain⟨b,hb⟩:∃b,b=dQ F cs s:=⟨_,rfl⟩;unfold eB;rw[←hb] at c1 ⊢;have HC:=aa (ac c1 h);clear c1 h hb;have v1:IntKind.i64.wrap ((s.p:Int)+1)=((s.p+1:Nat):Int):=by rw[aS _ (by omega)];omega
  cases b;all_goals (
    go_enter Tryz.func100,Tryz.ntmps100;go_wp2_with (
      (go_at_call 134;with_reducible refine HC.out.1.mono ?_
       rintro e w1 ⟨rfl,hb⟩;have H1:=aa ((Mz.start HC.out.2).next hb);obtain⟨c0,c1,c3,c4,f1,f2,f3,f4⟩:=H1.out.m.cells;clear hb))
    go_ret;refine⟨rfl,?_⟩)
  ·exact H1.out
  ·exact H1.out.setP (s.p+1)
theorem i7 (d:UInt8):((c.toNat:Int)==(d.toNat:Int))=(c==d):=by
  rw[bB];simp only[aR];exact⟨fun h=>dc.1 (by omega),fun h=>by rw[h]⟩
theorem nF (hF:FB F) (h:Mk g fv F s W) (hs:s.p≤F.length) :
    jL 170 #[.pointer (some ⟨g,0,none⟩)] W (.bool (eK F s)):=by
  have c0:=fun W (h:Mk g fv F s W)=>nC hF h hs 0 s.p (by omega) (.inl rfl)
  have c1:=fun W (h:Mk g fv F s W)=>nC hF h hs 1 (s.p+1) (by omega) (.inr rfl)
  obtain⟨a,ha⟩:∃a,a=sg F s.p:=⟨_,rfl⟩;obtain⟨b,hb⟩:∃b,b=sg F (s.p+1):=⟨_,rfl⟩;unfold eK;rw[←ha,←hb];rw[←ha] at c0;rw[←hb] at c1;have k1:((a.toNat:Int)==60)=(a==60):=i7 a 60;have k2:((a.toNat:Int)==35)=(a==35):=i7 a 35;have k3:((b.toNat:Int)==60)=(b==60):=i7 b 60;have HC:=aa (ac c0 (ac c1 h));clear c0 c1 h ha hb;generalize (a==60)=x1 at *;generalize (a==35)=x2 at *;generalize (b==60)=x3 at *;have key:x1=true∨(x1=false∧x2=false)∨(x1=false∧x2=true∧x3=true)∨(x1=false∧x2=true∧x3=false):=by cases x1<;>cases x2<;>cases x3<;>simp
  rcases key with rfl|⟨rfl,rfl⟩|⟨rfl,rfl,rfl⟩|⟨rfl,rfl,rfl⟩
  all_goals (
    go_enter Tryz.func170,Tryz.ntmps170
    go_wp2_with (first
      | (go_at_call 135;with_reducible refine(HC.out.1 _ HC.out.2.2).mono ?_
         rintro e w1 ⟨rfl,hb⟩;have H1:=aa (ac (HC.out.2.2.next hb).1 hb);clear hb)
      | (go_at_call 135;with_reducible refine(HC.out.2.1 _ H1.out.1).mono ?_
         rintro e w2 ⟨rfl,hb⟩;have H2:=aa (H1.out.2.trans (hb.mono H1.out.2.size));clear hb)
      | fail)
    go_ret;exact⟨rfl,by first|exact H2.out|exact H1.out.2⟩)
theorem nZ (hF:FB F) (h:Mk g fv F s W) (hs:s.p≤F.length) :
    jL 171 #[.pointer (some ⟨g,0,none⟩)] W (.bool (gu F s)):=by
  have c0:=ti hF h hs [123,40,105,119,114,99] (by decide);unfold gu;generalize dQ F [123,40,105,119,114,99] s=b at *;obtain⟨y0,y1,y3,y4,_⟩:=h.cells;have HC:=aa (ac c0 h);clear c0 h;by_cases hd:s.deep<200
  ·have u1:(s.deep:Int)<200:=by omega
   rw[aG hd,cK];go_enter Tryz.func171,Tryz.ntmps171;go_wp2_with (
     (go_at_call 134;with_reducible refine HC.out.1.mono ?_
      rintro e w1 ⟨rfl,hb⟩;have H1:=aa hb;clear hb))
   go_ret;exact⟨rfl,H1.out⟩
  ·have u1:¬(s.deep:Int)<200:=by omega
   rw[aL hd,dF];go_enter Tryz.func171,Tryz.ntmps171;go_wp2_with fail;go_ret;exact⟨rfl,aC _ _⟩
theorem pH (hF:FB F) (h:Mk g fv F s W) (hs:s.p≤F.length) :
    jL 136 #[.pointer (some ⟨g,0,none⟩)] W (.bool (ng F s)):=by
  have c0:=nC hF h hs 0 s.p (by omega) (.inl rfl);have c1:=fun W (h:Mk g fv F s W)=>nF hF h hs
  have c2:=fun W (h:Mk g fv F s W)=>nZ hF h hs
  unfold ng;generalize sg F s.p=a at *;generalize eK F s=x2 at *;generalize gu F s=x3 at *;have k1:((a.toNat:Int)==120)=(a==120):=i7 a 120;generalize (a==120)=x1 at *;have HC:=aa (ac c0 (ac c1 (ac c2 h)));clear c0 c1 c2 h;have key:x1=true∨(x1=false∧x2=true)∨(x1=false∧x2=false):=by cases x1<;>cases x2<;>simp
  rcases key with rfl|⟨rfl,rfl⟩|⟨rfl,rfl⟩
  all_goals (
    go_enter Tryz.func136,Tryz.ntmps136
    go_wp2_with (first
      | (go_at_call 135;with_reducible refine HC.out.1.mono ?_
         rintro e w1 ⟨rfl,hb⟩;have H1:=aa (ac (HC.out.2.2.2.next hb).1 hb);clear hb)
      | (go_at_call 170;with_reducible refine(HC.out.2.1 _ H1.out.1).mono ?_
         rintro e w2 ⟨rfl,hb⟩;have H2:=aa (ac (H1.out.1.next hb).1 (H1.out.2.trans (hb.mono H1.out.2.size)));clear hb)
      | (go_at_call 171;with_reducible refine(HC.out.2.2.1 _ H2.out.1).mono ?_
         rintro e w3 ⟨rfl,hb⟩;have H3:=aa (H2.out.2.trans (hb.mono H2.out.2.size));clear hb)
      | fail)
    go_ret;exact⟨rfl,by first|exact H3.out|exact H2.out.2|exact H1.out.2⟩)
theorem B9 (hF:FB F) (h:Mk g fv F s W) (hs:s.p≤F.length) :
    jL 101 #[.pointer (some ⟨g,0,none⟩)] W (.bool (fq F s)):=by
  have c0:=nC hF h hs 0 s.p (by omega) (.inl rfl);have c1:=fun W (h:Mk g fv F s W)=>pH hF h hs
  unfold fq;generalize sg F s.p=a at *;generalize ng F s=x2 at *;have k1:((a.toNat:Int)==33)=(a==33):=i7 a 33;generalize (a==33)=x1 at *;have HC:=aa (ac c0 (ac c1 h));clear c0 c1 h
  cases x1;all_goals (
    go_enter Tryz.func101,Tryz.ntmps101
    go_wp2_with (first
      | (go_at_call 135;with_reducible refine HC.out.1.mono ?_
         rintro e w1 ⟨rfl,hb⟩;have H1:=aa (ac (HC.out.2.2.next hb).1 hb);clear hb)
      | (go_at_call 136;with_reducible refine(HC.out.2.1 _ H1.out.1).mono ?_
         rintro e w2 ⟨rfl,hb⟩;have H2:=aa (H1.out.2.trans (hb.mono H1.out.2.size));clear hb)
      | fail)
    go_ret;exact⟨rfl,by first|exact H2.out|exact H1.out.2⟩)
theorem ms (hF:FB F) (h:Mk g fv F s W) (hs:s.p≤F.length) :
    jL 261 #[.pointer (some ⟨g,0,none⟩)] W (.bool (iM F s.p)):=by
  obtain⟨c0,c1,_⟩:=h.cells;obtain⟨A,c,rfl⟩:=h.f.formm;have hn:=hF.n;have hfr:=h.f;clear h;unfold iM;obtain⟨q,hq⟩:∃q,q=s.p:=⟨_,rfl⟩;rw[←hq] at c1 hs ⊢;clear hq;by_cases hlt:q<F.length
  ·obtain⟨x,hx⟩:∃x,F[q]? = some x:=⟨_,ax hlt⟩;rw[hx];obtain⟨g1,o1,rfl,y0,y1,y2,y3⟩:=jl hfr hx rfl;have u1:(q:Int)<(F.length:Int):=by omega
   have u2:(0:Int)≤(q:Int):=by omega
   simp only;clear hx hfr hn hs;go_enter Tryz.func261,Tryz.ntmps261;go_wp2;have d1:decide ((q:Int)<(F.length:Int))=true:=aG u1;go_quiet (fail);go_wp2;go_ret;exact⟨rfl,dN (aC _ W) _⟩
  ·rw[bY (by omega)];have u1:¬(q:Int)<(F.length:Int):=by omega
   simp only;clear hfr hn hs;go_enter Tryz.func261,Tryz.ntmps261;go_wp2;have d1:decide ((q:Int)<(F.length:Int))=false:=aL (by omega);go_quiet (fail);go_wp2;go_ret;exact⟨rfl,dN (aC _ W) _⟩
end Go.Proofs.YtcagfamdoaoimaaGreatDoor
