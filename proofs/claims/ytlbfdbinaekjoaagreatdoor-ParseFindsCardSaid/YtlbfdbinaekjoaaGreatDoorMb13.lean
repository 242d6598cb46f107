/- The parser's memory: the box of a maker, the leaves that it reads and the nodes that it has made. -/
import Derived.Test.YtlbfdbinaekjoaaGreatDoorPl13
import Derived.Test.YtlbfdbinaekjoaaGreatDoorOp9
import Derived.Test.YtlbfdbinaekjoaaGreatDoorSa9
import Derived.Test.YtlbfdbinaekjoaaGreatDoorLn9
import Derived.OwnWalk
namespace Go.Proofs.YtlbfdbinaekjoaaGreatDoor
open Go.RowKit
set_option linter.unusedVariables false
set_option linter.unusedSimpArgs false
set_option maxRecDepth 100000
theorem bog {B:Nat} {a w w':World} {g:Nat} (h:Below B a w) (hg:w.grownBy w' (some g)) (hB:B≤w.heap.size) (hr:B≤g):Below B a w':=
  h.grown hg hB (fun k e=>by injection e with e;omega)
def ndc (x:Nd):List Value:=[.int .i64 (x.kd:Int),.int .i64 (x.fr:Int),.int .i64 (x.tt:Int),.int .i64 x.up]
theorem ndc_len (x:Nd):(ndc x).length=4:=rfl
def ndcs (L:List Nd):List Value:=L.flatMap ndc
theorem ndcs_app (L M:List Nd):ndcs (L++M)=ndcs L++ndcs M:=by simp[ndcs]
theorem ndcs_len (L:List Nd):(ndcs L).length=L.length*4:=by
  induction L with
  | nil=>rfl
  | cons x L ih=>show (ndc x++ndcs L).length=_;rw[List.length_append,ih,ndc_len,List.length_cons];omega
theorem one_nd (x:Nd):∀u∈ndcs [x],u.oneCell'=true:=by
  intro u hu
  simp[ndcs,ndc] at hu
  rcases hu with rfl|rfl|rfl|rfl<;>rfl
theorem ndcs_to:∀(L:List Nd) (i t:Nat),i<L.length→(ndcs L).set (i*4+2) (.int .i64 (t:Int))=ndcs (ndTo L i t)
  | [],i,t,h=>by simp at h
  | x::L,0,t,h=>rfl
  | x::L,i+1,t,h=>by
    have ih:=ndcs_to L i t (by simpa using h)
    show (ndc x++ndcs L).set _ _=ndc x++ndcs (ndTo L i t)
    rw[←ih,List.set_append_right _ _ (by rw[ndc_len];omega),ndc_len,show (i+1)*4+2-4=i*4+2 by omega]
structure Fg (g:Nat) (W W':World):Prop where
  hb:Below g W W'
  kt:KT [42,38] W W'
theorem Fg.refl (g:Nat) (W:World):Fg g W W:=⟨Below.refl _ _,KT.refl _ _⟩
theorem Fg.trans {g:Nat} {a b c:World} (h:Fg g a b) (k:Fg g b c):Fg g a c:=⟨h.hb.trans k.hb,h.kt.trans k.kt⟩
theorem Fg.of {g:Nat} {W W':World} (hb:Below W.heap.size W W') (hg:g≤W.heap.size):Fg g W W':=⟨hb.mono hg,KT.of_below hb⟩
structure Mk (g:Nat) (fv:Value) (F:List Lf) (s:Ps) (W:World):Prop where
  w:∃lv,Bk W g 42 #[fv,.int .i64 (s.p:Int),lv,.int .i64 s.up,.int .i64 (s.deep:Int)]∧W.ownsRow g 38 4 lv s.l.length (ndcs s.l)
  f:Rd W g 4 fv F.length (lfcs F)
theorem Mk.lt {g:Nat} {fv:Value} {F:List Lf} {s:Ps} {W:World} (h:Mk g fv F s W):g<W.heap.size:=by
  obtain⟨lv,h1,_⟩:=h.w
  exact h1.lt
theorem Mk.next {g:Nat} {fv:Value} {F:List Lf} {s:Ps} {W W':World} (h:Mk g fv F s W) (hb:Below W.heap.size W W'):Mk g fv F s W'∧Fg g W W':=by
  obtain⟨lv,h1,h2⟩:=h.w
  exact⟨⟨⟨lv,h1.below hb h1.lt,own_below h2 hb⟩,h.f.keep (hb.mono (Nat.le_of_lt h1.lt)) (Nat.le_refl _)⟩,.of hb (Nat.le_of_lt h1.lt)⟩
theorem fr_set {g:Nat} {W:World} {cs:Array Value} (h:Bk W g 42 cs) (i:Nat) (v:Value):Fg g W (W.setCell ⟨g,i,none⟩ v):=
  ⟨bog (Below.refl _ _) (grown_set (grown_refl W (some g)) i v) (Nat.le_of_lt h.lt) (Nat.le_refl _),(KT.refl _ W).setCell h (by decide) i v⟩
theorem own_mk {g:Nat} {W:World} {cs:Array Value} {lv:Value} {n:Nat} {xs:List Value} (h:Bk W g 42 cs) (k:W.ownsRow g 38 4 lv n xs) (i:Nat) (v:Value):(W.setCell ⟨g,i,none⟩ v).ownsRow g 38 4 lv n xs:=
  own_far k (own_ne k h (by decide)) v
theorem rt_mk {g:Nat} {W:World} {cs:Array Value} {fv:Value} {n:Nat} {xs:List Value} (h:Bk W g 42 cs) (k:Rd W g 4 fv n xs) (i:Nat) (v:Value):Rd (W.setCell ⟨g,i,none⟩ v) g 4 fv n xs:=
  k.keep (fr_set h i v).hb (Nat.le_refl _)
theorem Rd.formm {w:World} {B sz n:Nat} {v:Value} {xs:List Value} (h:Rd w B sz v n xs):∃A c,v=.slice A n c:=by
  obtain⟨_,A,c,h2,_⟩:=h
  exact⟨A,c,h2⟩
theorem Mk.setP {g:Nat} {fv:Value} {F:List Lf} {s:Ps} {W:World} (h:Mk g fv F s W) (p:Nat):Mk g fv F {s with p:=p} (W.setCell ⟨g,1,none⟩ (.int .i64 (p:Int)))∧Fg g W (W.setCell ⟨g,1,none⟩ (.int .i64 (p:Int))):=by
  obtain⟨lv,h1,h2⟩:=h.w
  exact⟨⟨⟨lv,h1.set 1 _,own_mk h1 h2 _ _⟩,rt_mk h1 h.f _ _⟩,fr_set h1 _ _⟩
theorem Mk.setUp {g:Nat} {fv:Value} {F:List Lf} {s:Ps} {W:World} (h:Mk g fv F s W) (u:Int):Mk g fv F {s with up:=u} (W.setCell ⟨g,3,none⟩ (.int .i64 u))∧Fg g W (W.setCell ⟨g,3,none⟩ (.int .i64 u)):=by
  obtain⟨lv,h1,h2⟩:=h.w
  exact⟨⟨⟨lv,h1.set 3 _,own_mk h1 h2 _ _⟩,rt_mk h1 h.f _ _⟩,fr_set h1 _ _⟩
theorem Mk.setDeep {g:Nat} {fv:Value} {F:List Lf} {s:Ps} {W:World} (h:Mk g fv F s W) (d:Nat):Mk g fv F {s with deep:=d} (W.setCell ⟨g,4,none⟩ (.int .i64 (d:Int)))∧Fg g W (W.setCell ⟨g,4,none⟩ (.int .i64 (d:Int))):=by
  obtain⟨lv,h1,h2⟩:=h.w
  exact⟨⟨⟨lv,h1.set 4 _,own_mk h1 h2 _ _⟩,rt_mk h1 h.f _ _⟩,fr_set h1 _ _⟩
theorem Mk.setTo {g:Nat} {fv:Value} {F:List Lf} {s:Ps} {W:World} {ga c n:Nat} (h1:Bk W g 42 #[fv,.int .i64 (s.p:Int),.slice (some ⟨ga,0,none⟩) n c,.int .i64 s.up,.int .i64 (s.deep:Int)])
    (h2:W.ownsRow g 38 4 (.slice (some ⟨ga,0,none⟩) n c) s.l.length (ndcs s.l)) (hf:Rd W g 4 fv F.length (lfcs F)) (i t:Nat) (hi:i<s.l.length) :
    Mk g fv F {s with l:=ndTo s.l i t} (W.setCell ⟨ga,i*4+2,none⟩ (.int .i64 (t:Int)))∧Fg g W (W.setCell ⟨ga,i*4+2,none⟩ (.int .i64 (t:Int))):=by
  have hne:ga≠g:=fun e=>own_ne h2 h1 (by decide) (by rw[e];rfl)
  obtain⟨e1,_,_,e4,e5⟩:=own_le h2
  subst e1
  have hh:=own_heap h2
  have hs:=own_set h2 (i*4+2) (.int .i64 (t:Int))
  rw[ndcs_to _ _ _ hi] at hs
  have hg:=grown_set (grown_refl W (some ga)) (i*4+2) (.int .i64 (t:Int))
  refine⟨⟨⟨_,h1.grown hg (fun e=>hne (by injection e with e;exact e.symm)),by show World.ownsRow _ _ _ _ _ (ndTo _ _ _).length _;rw[ndTo_len];exact hs⟩,hf.keep (bog (Below.refl _ _) hg (Nat.le_of_lt h1.lt) e4) (Nat.le_refl _)⟩,
    ⟨bog (Below.refl _ _) hg (Nat.le_of_lt h1.lt) e4,(KT.refl _ W).setCell hh (by decide) _ _⟩⟩
theorem Mk.push {g:Nat} {fv:Value} {F:List Lf} {s:Ps} {W W':World} {lv v':Value} {x:Nd} (h1:Bk W g 42 #[fv,.int .i64 (s.p:Int),lv,.int .i64 s.up,.int .i64 (s.deep:Int)])
    (h2:W.ownsRow g 38 4 lv s.l.length (ndcs s.l)) (hf:Rd W g 4 fv F.length (lfcs F)) (ho:W'.ownsRow g 38 4 v' (s.l.length+1) (ndcs s.l++ndcs [x])) (hg:W.grownBy W' lv.ownBlock) :
    Mk g fv F {s with l:=s.l++[x]} (W'.setCell ⟨g,2,none⟩ v')∧Fg g W (W'.setCell ⟨g,2,none⟩ v'):=by
  have k1:Bk W' g 42 _:=h1.grown hg (fun e=>own_ne h2 h1 (by decide) e.symm)
  have kfr:Fg g W W':=⟨Below.grown (Below.refl _ _) hg (Nat.le_of_lt h1.lt) (fun k hk=>(h2.lt k hk).1),(KT.refl _ W).grown hg (fun k hk=>by obtain⟨cs,t,fr,e1,e2⟩:=own_blk h2 k hk;exact⟨cs,t,fr,e1,by rw[e2];decide⟩)⟩
  have kf:Rd W' g 4 fv F.length (lfcs F):=hf.keep kfr.hb (Nat.le_refl _)
  rw[←ndcs_app] at ho
  refine⟨⟨⟨v',k1.set 2 v',?_⟩,rt_mk k1 kf _ _⟩,kfr.trans (fr_set k1 _ _)⟩
  show World.ownsRow _ _ _ _ _ (s.l++[x]).length _
  rw[List.length_append]
  exact own_mk k1 ho _ _
theorem Bk.fivem {w:World} {g:Nat} {t:TypeId} {x0 x1 x2 x3 x4:Value} (h:Bk w g t #[x0,x1,x2,x3,x4]):w.cell? ⟨g,0,none⟩=some x0∧w.cell? ⟨g,1,none⟩=some x1∧w.cell? ⟨g,2,none⟩=some x2∧w.cell? ⟨g,3,none⟩=some x3∧w.cell? ⟨g,4,none⟩=some x4:=
  ⟨h.cell 0,h.cell 1,h.cell 2,h.cell 3,h.cell 4⟩
end Go.Proofs.YtlbfdbinaekjoaaGreatDoor
namespace Go.Proofs.YtlbfdbinaekjoaaGreatDoor
open Go.RowKit
set_option linter.unusedVariables false
set_option linter.unusedSimpArgs false
set_option maxRecDepth 100000
def wrds:List (List UInt8×UInt8):=[([33],33),([123],123),([125],125),([105,102],105),([116,104,101,110],116),([101,108,105,102],101),([101,108,115,101],108),([102,105],102),([119,104,105,108,101],119),([117,110,116,105,108],119),([100,111],100),([100,111,110,101],103),([102,111,114],114),([105,110],107),([99,97,115,101],99),([101,115,97,99],122)]
set_option maxHeartbeats 1000000 in
theorem word_m (l:List UInt8) (w:World):Calls Tryz.prog 66 #[.string ⟨l.toArray⟩] w fun e w'=>e=.returned (.int .u8 ((wsgn l).toNat:Int))∧w'=w:=by
  by_cases h:∃q∈wrds,l=q.1
  ·obtain⟨q,hq,rfl⟩:=h
   simp only[wrds,List.mem_cons,List.not_mem_nil,or_false] at hq
   rcases hq with rfl|rfl|rfl|rfl|rfl|rfl|rfl|rfl|rfl|rfl|rfl|rfl|rfl|rfl|rfl|rfl
   all_goals (
     go_enter Tryz.func66,Tryz.ntmps66
     go_wp2
     go_ret
     exact⟨rfl,rfl⟩)
  ·have hn:∀q∈wrds,l≠q.1:=fun q hq e=>h ⟨q,hq,e⟩
   clear h
   have ev:wsgn l=120:=by
     unfold wsgn
     simp only[hn ([33],33) (by decide),hn ([123],123) (by decide),hn ([125],125) (by decide),hn ([105,102],105) (by decide),hn ([116,104,101,110],116) (by decide),hn ([101,108,105,102],101) (by decide),hn ([101,108,115,101],108) (by decide),hn ([102,105],102) (by decide),hn ([119,104,105,108,101],119) (by decide),hn ([117,110,116,105,108],119) (by decide),hn ([100,111],100) (by decide),hn ([100,111,110,101],103) (by decide),hn ([102,111,114],114) (by decide),hn ([105,110],107) (by decide),hn ([99,97,115,101],99) (by decide),hn ([101,115,97,99],122) (by decide),or_self,if_false]
   rw[ev]
   have k0:(l==[33])=false:=beq_false_of_ne (hn ([33],33) (by decide))
   have k1:(l==[123])=false:=beq_false_of_ne (hn ([123],123) (by decide))
   have k2:(l==[125])=false:=beq_false_of_ne (hn ([125],125) (by decide))
   have k3:(l==[105,102])=false:=beq_false_of_ne (hn ([105,102],105) (by decide))
   have k4:(l==[116,104,101,110])=false:=beq_false_of_ne (hn ([116,104,101,110],116) (by decide))
   have k5:(l==[101,108,105,102])=false:=beq_false_of_ne (hn ([101,108,105,102],101) (by decide))
   have k6:(l==[101,108,115,101])=false:=beq_false_of_ne (hn ([101,108,115,101],108) (by decide))
   have k7:(l==[102,105])=false:=beq_false_of_ne (hn ([102,105],102) (by decide))
   have k8:(l==[119,104,105,108,101])=false:=beq_false_of_ne (hn ([119,104,105,108,101],119) (by decide))
   have k9:(l==[117,110,116,105,108])=false:=beq_false_of_ne (hn ([117,110,116,105,108],119) (by decide))
   have k10:(l==[100,111])=false:=beq_false_of_ne (hn ([100,111],100) (by decide))
   have k11:(l==[100,111,110,101])=false:=beq_false_of_ne (hn ([100,111,110,101],103) (by decide))
   have k12:(l==[102,111,114])=false:=beq_false_of_ne (hn ([102,111,114],114) (by decide))
   have k13:(l==[105,110])=false:=beq_false_of_ne (hn ([105,110],107) (by decide))
   have k14:(l==[99,97,115,101])=false:=beq_false_of_ne (hn ([99,97,115,101],99) (by decide))
   have k15:(l==[101,115,97,99])=false:=beq_false_of_ne (hn ([101,115,97,99],122) (by decide))
   clear hn ev
   go_enter Tryz.func66,Tryz.ntmps66
   go_wp2
   go_ret
   exact⟨rfl,rfl⟩
theorem opFrom_tx (l:List UInt8):∀m k,opFrom l m k≠0→opTx (opFrom l m k)=l
  | 0,_,h=>absurd rfl h
  | m+1,k,h=>by
    unfold opFrom at h ⊢
    by_cases hk:opTx k=l
    ·rw[if_pos hk];exact hk
    ·rw[if_neg hk] at h ⊢;exact opFrom_tx l m (k+1) h
theorem opOf_tx {l:List UInt8} {n:Nat} (h0:n≠0) (h:opOf l=n):l=opTx n:=by
  unfold opOf at h
  split at h
  ·exact absurd h.symm h0
  ·rw[←h];exact(opFrom_tx l 17 1 (by rw[h];exact h0)).symm
theorem redir_i (n:Int) (b:Bool) (w:World) (h:(n,b)∈[((0:Int),false),(4,true),(5,true),(6,true),(7,true),(8,true),(9,true),(10,true),(11,true),(12,true),(13,false),(14,false),(15,false),(16,false),(17,false)]):Calls Tryz.prog 83 #[.int .i64 n] w fun e w'=>e=.returned (.bool b)∧w=w':=by
  simp only[List.mem_cons,List.not_mem_nil,or_false,Prod.mk.injEq] at h
  rcases h with ⟨rfl,rfl⟩|⟨rfl,rfl⟩|⟨rfl,rfl⟩|⟨rfl,rfl⟩|⟨rfl,rfl⟩|⟨rfl,rfl⟩|⟨rfl,rfl⟩|⟨rfl,rfl⟩|⟨rfl,rfl⟩|⟨rfl,rfl⟩|⟨rfl,rfl⟩|⟨rfl,rfl⟩|⟨rfl,rfl⟩|⟨rfl,rfl⟩|⟨rfl,rfl⟩
  all_goals (
    go_enter Tryz.func83,Tryz.ntmps83
    go_wp2
    go_ret
    exact⟨rfl,rfl⟩)
set_option maxHeartbeats 1000000 in
theorem operator_m (l:List UInt8) (w:World) (hl:l.length≤1000000):Calls Tryz.prog 65 #[.string ⟨l.toArray⟩] w fun e w'=>e=.returned (.int .u8 ((osgn (opOf l)).toNat:Int))∧w'=w:=by
  obtain⟨n,hn⟩:∃n,n=opOf l:=⟨_,rfl⟩
  have h17:n≤17:=by rw[hn];exact opOf_le l
  have hc:∀W,Calls Tryz.prog 80 #[.string ⟨l.toArray⟩] W fun e w'=>e=.returned (.int .i64 (n:Int))∧W=w':=fun W=>by rw[hn];exact opof_m l W hl
  have HC:=Lib.hid hc
  have h1:n=13∨n=14∨n=15∨n=16∨n=17→l=opTx n:=fun h=>opOf_tx (by omega) hn.symm
  rw[←hn]
  clear hc hn
  have h0:n=0∨n=1∨n=2∨n=3∨n=4∨n=5∨n=6∨n=7∨n=8∨n=9∨n=10∨n=11∨n=12∨n=13∨n=14∨n=15∨n=16∨n=17:=by omega
  rcases h0 with rfl|rfl|rfl|rfl|rfl|rfl|rfl|rfl|rfl|rfl|rfl|rfl|rfl|rfl|rfl|rfl|rfl|rfl
  case' inr.inr.inr.inr.inr.inr.inr.inr.inr.inr.inr.inr.inr.inl=>obtain rfl:=h1 (by omega)
  case' inr.inr.inr.inr.inr.inr.inr.inr.inr.inr.inr.inr.inr.inr.inl=>obtain rfl:=h1 (by omega)
  case' inr.inr.inr.inr.inr.inr.inr.inr.inr.inr.inr.inr.inr.inr.inr.inl=>obtain rfl:=h1 (by omega)
  case' inr.inr.inr.inr.inr.inr.inr.inr.inr.inr.inr.inr.inr.inr.inr.inr.inl=>obtain rfl:=h1 (by omega)
  case' inr.inr.inr.inr.inr.inr.inr.inr.inr.inr.inr.inr.inr.inr.inr.inr.inr=>obtain rfl:=h1 (by omega)
  all_goals (
    clear h1
    go_enter Tryz.func65,Tryz.ntmps65
    go_wp2_with (first
      | (go_at_call 80
         with_reducible refine(HC.out _).mono ?_
         rintro e w1 ⟨rfl,rfl⟩)
      | (go_at_call 83
         refine(redir_i _ _ _ (by first|exact List.mem_cons_self .. | (repeat (first|exact List.mem_cons_self .. | refine List.mem_cons_of_mem _ ?_)))).mono ?_
         rintro e w2 ⟨rfl,rfl⟩)
      | fail)
    go_ret
    exact⟨rfl,rfl⟩)
def lfv (x:Lf):Value:=.agg #[.int .i64 x.kd,.string ⟨x.tx.toArray⟩,.int .i64 x.fr,.int .i64 x.to]
set_option maxHeartbeats 1000000 in
theorem sign_f (x:Lf) (w:World) (hl:x.tx.length≤1000000):Calls Tryz.prog 57 #[lfv x] w fun e w'=>e=.returned (.int .u8 ((sgnL x).toNat:Int))∧Below w.heap.size w w':=by
  obtain⟨kd,t,fr,to⟩:=x
  unfold lfv sgnL
  simp only
  replace hl:t.length≤1000000:=hl
  have key:kd=2∨kd=4∨kd=5∨kd=6∨(kd≠2∧kd≠4∧kd≠5∧kd≠6):=by omega
  rcases key with rfl|rfl|rfl|rfl|⟨a,b,c,d⟩
  case' inr.inr.inr.inr=>
    rw[if_neg a,if_neg b,if_neg c,if_neg d]
    have a:(kd==2)=false:=beq_false_of_ne a
    have b:(kd==4)=false:=beq_false_of_ne b
    have c:(kd==5)=false:=beq_false_of_ne c
    have d:(kd==6)=false:=beq_false_of_ne d
  all_goals (
    go_enter Tryz.func57,Tryz.ntmps57
    go_wp2_with (first
      | (go_at_call 65
         refine(operator_m t _ hl).mono ?_
         rintro e w1 ⟨rfl,rfl⟩)
      | (go_at_call 66
         refine(word_m t _).mono ?_
         rintro e w1 ⟨rfl,rfl⟩)
      | fail)
    go_ret
    exact⟨rfl,(Below.refl _ w).alloc (Nat.le_refl _) _⟩)
theorem isname_m (l:List UInt8) (w:World) (hl:l.length≤100000):Calls Tryz.prog 112 #[.string ⟨l.toArray⟩] w fun e w'=>e=.returned (.bool (nameT l))∧w'=w:=by
  unfold nameT
  by_cases h:l=[]
  ·subst h
   go_enter Tryz.func112,Tryz.ntmps112
   go_wp2
   go_ret
   exact⟨rfl,rfl⟩
  ·have k0:(l==[])=false:=beq_false_of_ne h
   have k1:(l != [])=true:=by rw[bne,k0];rfl
   rw[k1]
   go_enter Tryz.func112,Tryz.ntmps112
   go_wp2_with (
     (go_at_call 145
      refine(name_m l 0 _ (by omega) hl).mono ?_
      rintro e w1 ⟨rfl,rfl⟩))
   go_ret
   exact⟨by rw[Bool.true_and];exact ret_bool (by rw[Bool.eq_iff_iff];simp only[beq_iff_eq];omega),rfl⟩
set_option maxHeartbeats 1000000 in
theorem assign_m (l:List UInt8) (w:World) (hl:l.length≤100000):Calls Tryz.prog 146 #[.string ⟨l.toArray⟩] w fun e w'=>(∃a b,e=.returned (.tuple #[a,b,.bool (asgT l)]))∧∃n,w'=w.drewN n:=by
  obtain⟨n,hn⟩:∃n,n=nmL l 0:=⟨_,rfl⟩
  have hle:n≤l.length:=by have:=nmL_le l 0;omega
  have hc:∀W,Calls Tryz.prog 145 #[.string ⟨l.toArray⟩,.int .i64 0] W fun e w'=>e=.returned (.int .i64 (n:Int))∧W=w':=fun W=>by rw[hn];exact name_m l 0 W (by omega) hl
  unfold asgT
  rw[←hn]
  have HC:=Lib.hid hc
  clear hc hn
  by_cases h0:n=0
  ·subst h0
   go_enter Tryz.func146,Tryz.ntmps146
   go_wp2_with (
     (go_at_call 145
      with_reducible refine(HC.out _).mono ?_
      rintro e w1 ⟨rfl,rfl⟩))
   go_ret3
   exact⟨⟨_,_,rfl⟩,0,rfl⟩
  ·have k0:((n:Int)==0)=false:=beq_false_of_ne (by omega)
   have k0':(n != 0)=true:=by simp[h0]
   rw[k0',Bool.true_and]
   by_cases h1:n=l.length
   ·have k1:((n:Int)==(l.length:Int))=true:=by simp[h1]
    have k1':(n != l.length)=false:=by simp[h1]
    rw[k1',Bool.false_and]
    clear h1
    go_enter Tryz.func146,Tryz.ntmps146
    go_wp2_with (
      (go_at_call 145
       with_reducible refine(HC.out _).mono ?_
       rintro e w1 ⟨rfl,rfl⟩))
    go_ret3
    exact⟨⟨_,_,rfl⟩,0,rfl⟩
   ·have k1:((n:Int)==(l.length:Int))=false:=beq_false_of_ne (by omega)
    have k1':(n != l.length)=true:=by simp[h1]
    rw[k1',Bool.true_and]
    have hlt:n<l.length:=by omega
    obtain⟨cc,hcc⟩:∃cc,cc=l[n]:=⟨_,rfl⟩
    have hg:l.getD n 0=cc:=by rw[hcc,List.getD_eq_getElem?_getD,List.getElem?_eq_getElem hlt];rfl
    rw[hg]
    have g1:n<(ByteArray.mk l.toArray).size:=hlt
    have g2:(ByteArray.mk l.toArray)[n]'g1=cc:=hcc.symm
    have u1:(n:Int)<(l.length:Int):=by omega
    have u2:(0:Int)≤(n:Int):=by omega
    have u3:(n:Int)≤(l.length:Int):=by omega
    have u4:IntKind.i64.wrap ((n:Int)+1)=(n:Int)+1:=IntWalk.i64_in _ (by omega)
    have u5:(n:Int)+1≤(l.length:Int):=by omega
    have u6:(0:Int)≤(n:Int)+1:=by omega
    clear h1 h0 hg hcc
    obtain⟨b,hb⟩:∃b,b=(cc==61):=⟨_,rfl⟩
    have k2:((cc.toNat:Int)==61)=b:=by
      rw[hb,Bool.eq_iff_iff]
      simp only[beq_iff_eq]
      exact⟨fun h=>UInt8.toNat_inj.1 (by show cc.toNat=61;omega),fun h=>by rw[h];rfl⟩
    have k3:((cc.toNat:Int)!=61) = !b:=by rw[bne,k2]
    rw[←hb]
    clear hb
    cases b
    all_goals (
      go_enter Tryz.func146,Tryz.ntmps146
      go_wp2_with (first
        | (go_at_call 145
           with_reducible refine(HC.out _).mono ?_
           rintro e w1 ⟨rfl,rfl⟩)
        | fail)
      try go_quiet (fail)
      try go_wp2
      go_ret3
      exact⟨⟨_,_,rfl⟩,by first|exact⟨0,rfl⟩|exact⟨_,rfl⟩⟩)
theorem assigns_m (l:List UInt8) (w:World) (hl:l.length≤100000):Calls Tryz.prog 116 #[.string ⟨l.toArray⟩] w fun e w'=>e=.returned (.bool (asgT l))∧Below w.heap.size w w':=by
  obtain⟨b,hb⟩:∃b,b=asgT l:=⟨_,rfl⟩
  have hc:∀W,Calls Tryz.prog 146 #[.string ⟨l.toArray⟩] W fun e w'=>(∃x y,e=.returned (.tuple #[x,y,.bool b]))∧∃n,w'=W.drewN n:=fun W=>by rw[hb];exact assign_m l W hl
  rw[←hb]
  have HC:=Lib.hid hc
  clear hc hb
  go_enter Tryz.func116,Tryz.ntmps116
  go_wp2_with (
    (go_at_call 146
     with_reducible refine(HC.out _).mono ?_
     rintro e w1 ⟨⟨x,y,rfl⟩,n,rfl⟩))
  go_ret
  exact⟨rfl,below_drewN' (Below.refl _ w) n⟩
end Go.Proofs.YtlbfdbinaekjoaaGreatDoor
namespace Go.Proofs.YtlbfdbinaekjoaaGreatDoor
open Go.RowKit
set_option linter.unusedVariables false
set_option linter.unusedSimpArgs false
set_option maxRecDepth 100000
theorem bkp {W w':World} {a:Addr} {v:Value} (h:Below W.heap.size W w') (hc:W.cell? a=some v):w'.cell? a=some v:=(h.cell (block_of_cell hc)).trans hc
structure FB (F:List Lf):Prop where
  n:F.length≤900
  t:∀x∈F,x.tx.length≤1000
theorem lfc_lenm (x:Lf):(lfc x).length=4:=rfl
theorem lf_cells {F:List Lf} {w:World} {B:Nat} {A:Option Addr} {n c q:Nat} {x:Lf} (h:Rd w B 4 (.slice A n c) n (lfcs F)) (hq:F[q]? = some x) (hn:n=F.length) :
    ∃g o,A=some ⟨g,o,none⟩∧w.cell? ⟨g,o+q*4,none⟩=some (.int .i64 x.kd)∧w.cell? ⟨g,o+q*4+1,none⟩=some (.string ⟨x.tx.toArray⟩)∧w.cell? ⟨g,o+q*4+2,none⟩=some (.int .i64 x.fr)∧w.cell? ⟨g,o+q*4+3,none⟩=some (.int .i64 x.to):=by
  obtain⟨g,o,h1,_,hc⟩:=rd_sat lfc_lenm h hq hn
  exact⟨g,o,h1,hc 0 _ rfl,hc 1 _ rfl,hc 2 _ rfl,hc 3 _ rfl⟩
set_option maxHeartbeats 1000000 in
theorem sign_m {g:Nat} {fv:Value} {F:List Lf} {s:Ps} {W:World} (hF:FB F) (h:Mk g fv F s W) (hs:s.p≤F.length) (k:Int) (q:Nat) (hq:(s.p:Int)+k=(q:Int)) (hk:k=0∨k=1) :
    Calls Tryz.prog 49 #[.pointer (some ⟨g,0,none⟩),.int .i64 k] W fun e w'=>e=.returned (.int .u8 ((sg F q).toNat:Int))∧Below W.heap.size W w':=by
  obtain⟨lv,hb,_⟩:=h.w
  obtain⟨c0,c1,_,_,_⟩:=hb.fivem
  obtain⟨A,c,rfl⟩:=h.f.formm
  have hn:=hF.n
  have v1:IntKind.i64.wrap ((s.p:Int)+k)=(q:Int):=by rw[IntWalk.i64_in _ (by omega)];exact hq
  have hfr:=h.f
  clear hq hk
  by_cases hlt:q<F.length
  ·obtain⟨x,hx⟩:∃x,F[q]? = some x:=⟨_,List.getElem?_eq_getElem hlt⟩
   have hsg:sg F q=sgnL x:=by unfold sg;rw[hx]
   obtain⟨g1,o1,rfl,y0,y1,y2,y3⟩:=lf_cells hfr hx rfl
   have u1:(q:Int)<(F.length:Int):=by omega
   have u2:(0:Int)≤(q:Int):=by omega
   have d1:decide ((F.length:Int)≤(q:Int))=false:=decide_eq_false (by omega)
   have HX:=Lib.hid (And.intro hsg (hF.t x (List.mem_of_getElem? hx)))
   clear hsg hx hfr hn hs h hb
   rw[HX.out.1]
   go_enter Tryz.func49,Tryz.ntmps49
   go_wp2
   go_quiet (fail)
   go_wp2
   have c0':(W.drewN nq).cell? ⟨g,0,none⟩=some (.slice (some ⟨g1,o1,none⟩) F.length c):=c0
   have c1':(W.drewN nq).cell? ⟨g,1,none⟩=some (.int .i64 (s.p:Int)):=c1
   have y0':(W.drewN nq).cell? ⟨g1,o1+q*4,none⟩=some (.int .i64 x.kd):=y0
   have y1':(W.drewN nq).cell? ⟨g1,o1+q*4+1,none⟩=some (.string ⟨x.tx.toArray⟩):=y1
   have y2':(W.drewN nq).cell? ⟨g1,o1+q*4+2,none⟩=some (.int .i64 x.fr):=y2
   have y3':(W.drewN nq).cell? ⟨g1,o1+q*4+3,none⟩=some (.int .i64 x.to):=y3
   have hb0:Below W.heap.size W (W.drewN nq):=below_drewN' (Below.refl _ W) nq
   clear c0 c1 y0 y1 y2 y3
   generalize W.drewN nq=W1 at *
   go_region_held3 (fun w'=>w'.cell? ⟨g,0,none⟩=some (.slice (some ⟨g1,o1,none⟩) F.length c)∧w'.cell? ⟨g,1,none⟩=some (.int .i64 (s.p:Int))∧w'.cell? ⟨g1,o1+q*4,none⟩=some (.int .i64 x.kd)∧w'.cell? ⟨g1,o1+q*4+1,none⟩=some (.string ⟨x.tx.toArray⟩)∧w'.cell? ⟨g1,o1+q*4+2,none⟩=some (.int .i64 x.fr)∧w'.cell? ⟨g1,o1+q*4+3,none⟩=some (.int .i64 x.to))
    (first|with_reducible exact⟨c0',c1',y0',y1',y2',y3'⟩|exact⟨c0',c1',y0',y1',y2',y3'⟩)
    (
     (go_at_call 57
      refine(sign_f x _ (by have:=HX.out.2;omega)).mono ?_
      rintro e w2 ⟨rfl,hb2⟩
      have H2:=Lib.hid (hb0.trans (((Below.refl _ W1).drew.trans hb2).mono hb0.size))
      have c0':=bkp hb2 c0'
      have c1':=bkp hb2 c1'
      have y0':=bkp hb2 y0'
      have y1':=bkp hb2 y1'
      have y2':=bkp hb2 y2'
      have y3':=bkp hb2 y3'
      clear hb2))
   go_wp2
   go_ret
   exact⟨rfl,H2.out⟩
  ·have hsg:sg F q=0:=by unfold sg;rw[List.getElem?_eq_none (by omega)]
   have d1:(F.length:Int)≤(q:Int):=by omega
   rw[hsg]
   clear hfr hn hs h hb hsg
   go_enter Tryz.func49,Tryz.ntmps49
   go_wp2
   go_quiet (fail)
   go_wp2
   go_ret
   exact⟨rfl,below_drewN' (Below.refl _ W) nq⟩
theorem ixb_m (l:List UInt8) (c:UInt8) (W:World):Calls Tryz.prog 56 #[.string ⟨l.toArray⟩,.int .u8 (c.toNat:Int)] W fun e w'=>e=.returned (.int .i64 (Lib.indexByte l c))∧w'=W:=by
  refine(index_m _ _ W).mono ?_
  rintro e w' ⟨rfl,rfl⟩
  rw[Int.toNat_natCast,Nat.toUInt8_eq,UInt8.ofNat_toNat]
  exact⟨rfl,rfl⟩
theorem ixb_has (l:List UInt8) (c:UInt8):decide ((0:Int)≤Lib.indexByte l c)=l.contains c:=by
  induction l with
  | nil=>rfl
  | cons b l ih=>
    have hg:=Lib.indexByte_ge l c
    unfold Lib.indexByte
    by_cases hb:(b==c)=true
    ·rw[if_pos hb]
     have e:b=c:=by simpa using hb
     subst e
     simp
    ·rw[if_neg hb]
     have e:(c==b)=false:=by
       rw[beq_eq_false_iff_ne]
       exact fun h=>hb (by rw[h];simp)
     rw[List.contains_cons,e,Bool.false_or,←ih]
     by_cases h1:Lib.indexByte l c = -1
     ·rw[h1];rfl
     ·rw[if_neg (by simpa using h1)]
      rw[Bool.eq_iff_iff,decide_eq_true_iff,decide_eq_true_iff]
      omega
set_option maxHeartbeats 1000000 in
theorem comes_m {g:Nat} {fv:Value} {F:List Lf} {s:Ps} {W:World} (hF:FB F) (h:Mk g fv F s W) (hs:s.p≤F.length) (cs:List UInt8) (hcs:cs.contains 0=false) :
    Calls Tryz.prog 48 #[.pointer (some ⟨g,0,none⟩),.string ⟨cs.toArray⟩] W fun e w'=>e=.returned (.bool (comes F cs s))∧Below W.heap.size W w':=by
  have c1:=sign_m hF h hs 0 s.p (by omega) (.inl rfl)
  unfold comes
  obtain⟨c,hc⟩:∃c,c=sg F s.p:=⟨_,rfl⟩
  rw[←hc] at c1 ⊢
  have HC:=Lib.hid c1
  have c2:=fun W=>ixb_m cs c W
  have HI:=Lib.hid c2
  clear c1 c2 hc h hs
  by_cases h0:c=0
  ·subst h0
   rw[hcs]
   go_enter Tryz.func48,Tryz.ntmps48
   go_wp2_with (
     (go_at_call 49
      with_reducible refine HC.out.mono ?_
      rintro e w1 ⟨rfl,hb⟩
      have H1:=Lib.hid hb
      clear hb))
   go_ret
   exact⟨rfl,H1.out⟩
  ·have k0:((c.toNat:Int)==0)=false:=by
     rw[beq_eq_false_iff_ne]
     exact fun e=>h0 (UInt8.toNat_inj.1 (by show c.toNat=0;omega))
   have k2:((c.toNat:Int)!=0)=true:=by rw[bne,k0];rfl
   obtain⟨b,hb⟩:∃b,b=cs.contains c:=⟨_,rfl⟩
   have k1:decide ((0:Int)≤Lib.indexByte cs c)=b:=(ixb_has cs c).trans hb.symm
   rw[←hb]
   clear hb
   go_enter Tryz.func48,Tryz.ntmps48
   go_wp2_with (first
     | (go_at_call 49
        with_reducible refine HC.out.mono ?_
        rintro e w1 ⟨rfl,hb⟩
        have H1:=Lib.hid hb
        clear hb)
     | (go_at_call 56
        with_reducible refine(HI.out _).mono ?_
        rintro e w2 ⟨rfl,rfl⟩))
   go_ret
   exact⟨rfl,H1.out⟩
structure Mz (g:Nat) (fv:Value) (F:List Lf) (W:World) (t:Ps) (w':World):Prop where
  m:Mk g fv F t w'
  f:Fg g W w'
theorem Mz.of {g:Nat} {fv:Value} {F:List Lf} {W W1 w':World} {t:Ps} (h:Mk g fv F t W1∧Fg g w' W1):Mz g fv F w' t W1:=⟨h.1,h.2⟩
theorem Mz.start {g:Nat} {fv:Value} {F:List Lf} {s:Ps} {W:World} (h:Mk g fv F s W):Mz g fv F W s W:=⟨h,Fg.refl _ _⟩
theorem Mz.next {g:Nat} {fv:Value} {F:List Lf} {s:Ps} {W W1 w':World} (h:Mz g fv F W s W1) (hb:Below W1.heap.size W1 w'):Mz g fv F W s w':=⟨(h.m.next hb).1,h.f.trans (h.m.next hb).2⟩
theorem Mz.then {g:Nat} {fv:Value} {F:List Lf} {s t:Ps} {W W1 w':World} (h:Mz g fv F W s W1) (k:Mz g fv F W1 t w'):Mz g fv F W t w':=⟨k.m,h.f.trans k.f⟩
theorem Mz.drew {g:Nat} {fv:Value} {F:List Lf} {s:Ps} {W W1:World} (h:Mz g fv F W s W1) (n:Nat):Mz g fv F W s (W1.drewN n):=h.next (below_drewN' (Below.refl _ _) n)
theorem Mz.setP {g:Nat} {fv:Value} {F:List Lf} {s:Ps} {W W1:World} (h:Mz g fv F W s W1) (p:Nat):Mz g fv F W {s with p:=p} (W1.setCell ⟨g,1,none⟩ (.int .i64 (p:Int))):=⟨(h.m.setP p).1,h.f.trans (h.m.setP p).2⟩
theorem Mz.setUp {g:Nat} {fv:Value} {F:List Lf} {s:Ps} {W W1:World} (h:Mz g fv F W s W1) (u:Int):Mz g fv F W {s with up:=u} (W1.setCell ⟨g,3,none⟩ (.int .i64 u)):=⟨(h.m.setUp u).1,h.f.trans (h.m.setUp u).2⟩
theorem Mz.setDeep {g:Nat} {fv:Value} {F:List Lf} {s:Ps} {W W1:World} (h:Mz g fv F W s W1) (d:Nat):Mz g fv F W {s with deep:=d} (W1.setCell ⟨g,4,none⟩ (.int .i64 (d:Int))):=⟨(h.m.setDeep d).1,h.f.trans (h.m.setDeep d).2⟩
theorem Mk.cells {g:Nat} {fv:Value} {F:List Lf} {s:Ps} {W:World} (h:Mk g fv F s W):W.cell? ⟨g,0,none⟩=some fv∧W.cell? ⟨g,1,none⟩=some (.int .i64 (s.p:Int))∧W.cell? ⟨g,3,none⟩=some (.int .i64 s.up)∧W.cell? ⟨g,4,none⟩=some (.int .i64 (s.deep:Int)) ∧
    W.frozen? ⟨g,1,none⟩=false∧W.frozen? ⟨g,2,none⟩=false∧W.frozen? ⟨g,3,none⟩=false∧W.frozen? ⟨g,4,none⟩=false:=by
  obtain⟨lv,hb,_⟩:=h.w
  obtain⟨c0,c1,_,c3,c4⟩:=hb.fivem
  exact⟨c0,c1,c3,c4,hb.frozen _,hb.frozen _,hb.frozen _,hb.frozen _⟩
set_option maxHeartbeats 1000000 in
theorem take_m {g:Nat} {fv:Value} {F:List Lf} {s:Ps} {W:World} (hF:FB F) (h:Mk g fv F s W) (hs:s.p≤F.length) (cs:List UInt8) (hcs:cs.contains 0=false) :
    Calls Tryz.prog 30 #[.pointer (some ⟨g,0,none⟩),.string ⟨cs.toArray⟩] W fun e w'=>e=.returned (.bool (comes F cs s))∧Mz g fv F W (takeP F cs s) w':=by
  have c1:=comes_m hF h hs cs hcs
  have hn:=hF.n
  obtain⟨b,hb⟩:∃b,b=comes F cs s:=⟨_,rfl⟩
  unfold takeP
  rw[←hb] at c1 ⊢
  have HC:=Lib.hid (And.intro c1 h)
  clear c1 h hb
  have v1:IntKind.i64.wrap ((s.p:Int)+1)=((s.p+1:Nat):Int):=by rw[IntWalk.i64_in _ (by omega)];omega
  cases b
  all_goals (
    go_enter Tryz.func30,Tryz.ntmps30
    go_wp2_with (
      (go_at_call 48
       with_reducible refine HC.out.1.mono ?_
       rintro e w1 ⟨rfl,hb⟩
       have H1:=Lib.hid ((Mz.start HC.out.2).next hb)
       obtain⟨c0,c1,c3,c4,f1,f2,f3,f4⟩:=H1.out.m.cells
       clear hb))
    go_ret
    refine⟨rfl,?_⟩)
  ·exact H1.out
  ·exact H1.out.setP (s.p+1)
end Go.Proofs.YtlbfdbinaekjoaaGreatDoor
namespace Go.Proofs.YtlbfdbinaekjoaaGreatDoor
open Go.RowKit
set_option linter.unusedVariables false
set_option linter.unusedSimpArgs false
set_option maxRecDepth 100000
theorem u8_beq (c d:UInt8):((c.toNat:Int)==(d.toNat:Int))=(c==d):=by
  rw[Bool.eq_iff_iff]
  simp only[beq_iff_eq]
  exact⟨fun h=>UInt8.toNat_inj.1 (by omega),fun h=>by rw[h]⟩
set_option maxHeartbeats 1000000 in
theorem redirects_m {g:Nat} {fv:Value} {F:List Lf} {s:Ps} {W:World} (hF:FB F) (h:Mk g fv F s W) (hs:s.p≤F.length) :
    Calls Tryz.prog 58 #[.pointer (some ⟨g,0,none⟩)] W fun e w'=>e=.returned (.bool (redirB F s))∧Below W.heap.size W w':=by
  have c0:=fun W (h:Mk g fv F s W)=>sign_m hF h hs 0 s.p (by omega) (.inl rfl)
  have c1:=fun W (h:Mk g fv F s W)=>sign_m hF h hs 1 (s.p+1) (by omega) (.inr rfl)
  obtain⟨a,ha⟩:∃a,a=sg F s.p:=⟨_,rfl⟩
  obtain⟨b,hb⟩:∃b,b=sg F (s.p+1):=⟨_,rfl⟩
  unfold redirB
  rw[←ha,←hb]
  rw[←ha] at c0
  rw[←hb] at c1
  have k1:((a.toNat:Int)==60)=(a==60):=u8_beq a 60
  have k2:((a.toNat:Int)==35)=(a==35):=u8_beq a 35
  have k3:((b.toNat:Int)==60)=(b==60):=u8_beq b 60
  have HC:=Lib.hid (And.intro c0 (And.intro c1 h))
  clear c0 c1 h ha hb
  generalize (a==60)=x1 at *
  generalize (a==35)=x2 at *
  generalize (b==60)=x3 at *
  have key:x1=true∨(x1=false∧x2=false)∨(x1=false∧x2=true∧x3=true)∨(x1=false∧x2=true∧x3=false):=by cases x1<;>cases x2<;>cases x3<;>simp
  rcases key with rfl|⟨rfl,rfl⟩|⟨rfl,rfl,rfl⟩|⟨rfl,rfl,rfl⟩
  all_goals (
    go_enter Tryz.func58,Tryz.ntmps58
    go_wp2_with (first
      | (go_at_call 49
         with_reducible refine(HC.out.1 _ HC.out.2.2).mono ?_
         rintro e w1 ⟨rfl,hb⟩
         have H1:=Lib.hid (And.intro (HC.out.2.2.next hb).1 hb)
         clear hb)
      | (go_at_call 49
         with_reducible refine(HC.out.2.1 _ H1.out.1).mono ?_
         rintro e w2 ⟨rfl,hb⟩
         have H2:=Lib.hid (H1.out.2.trans (hb.mono H1.out.2.size))
         clear hb)
      | fail)
    go_ret
    exact⟨rfl,by first|exact H2.out|exact H1.out.2⟩)
set_option maxHeartbeats 1000000 in
theorem compounds_m {g:Nat} {fv:Value} {F:List Lf} {s:Ps} {W:World} (hF:FB F) (h:Mk g fv F s W) (hs:s.p≤F.length) :
    Calls Tryz.prog 59 #[.pointer (some ⟨g,0,none⟩)] W fun e w'=>e=.returned (.bool (compB F s))∧Below W.heap.size W w':=by
  have c0:=comes_m hF h hs [123,40,105,119,114,99] (by decide)
  unfold compB
  generalize comes F [123,40,105,119,114,99] s=b at *
  obtain⟨y0,y1,y3,y4,_⟩:=h.cells
  have HC:=Lib.hid (And.intro c0 h)
  clear c0 h
  by_cases hd:s.deep<200
  ·have u1:(s.deep:Int)<200:=by omega
   rw[decide_eq_true hd,Bool.true_and]
   go_enter Tryz.func59,Tryz.ntmps59
   go_wp2_with (
     (go_at_call 48
      with_reducible refine HC.out.1.mono ?_
      rintro e w1 ⟨rfl,hb⟩
      have H1:=Lib.hid hb
      clear hb))
   go_ret
   exact⟨rfl,H1.out⟩
  ·have u1:¬(s.deep:Int)<200:=by omega
   rw[decide_eq_false hd,Bool.false_and]
   go_enter Tryz.func59,Tryz.ntmps59
   go_wp2_with fail
   go_ret
   exact⟨rfl,Below.refl _ _⟩
set_option maxHeartbeats 1000000 in
theorem commands_m {g:Nat} {fv:Value} {F:List Lf} {s:Ps} {W:World} (hF:FB F) (h:Mk g fv F s W) (hs:s.p≤F.length) :
    Calls Tryz.prog 50 #[.pointer (some ⟨g,0,none⟩)] W fun e w'=>e=.returned (.bool (cmdB F s))∧Below W.heap.size W w':=by
  have c0:=sign_m hF h hs 0 s.p (by omega) (.inl rfl)
  have c1:=fun W (h:Mk g fv F s W)=>redirects_m hF h hs
  have c2:=fun W (h:Mk g fv F s W)=>compounds_m hF h hs
  unfold cmdB
  generalize sg F s.p=a at *
  generalize redirB F s=x2 at *
  generalize compB F s=x3 at *
  have k1:((a.toNat:Int)==120)=(a==120):=u8_beq a 120
  generalize (a==120)=x1 at *
  have HC:=Lib.hid (And.intro c0 (And.intro c1 (And.intro c2 h)))
  clear c0 c1 c2 h
  have key:x1=true∨(x1=false∧x2=true)∨(x1=false∧x2=false):=by cases x1<;>cases x2<;>simp
  rcases key with rfl|⟨rfl,rfl⟩|⟨rfl,rfl⟩
  all_goals (
    go_enter Tryz.func50,Tryz.ntmps50
    go_wp2_with (first
      | (go_at_call 49
         with_reducible refine HC.out.1.mono ?_
         rintro e w1 ⟨rfl,hb⟩
         have H1:=Lib.hid (And.intro (HC.out.2.2.2.next hb).1 hb)
         clear hb)
      | (go_at_call 58
         with_reducible refine(HC.out.2.1 _ H1.out.1).mono ?_
         rintro e w2 ⟨rfl,hb⟩
         have H2:=Lib.hid (And.intro (H1.out.1.next hb).1 (H1.out.2.trans (hb.mono H1.out.2.size)))
         clear hb)
      | (go_at_call 59
         with_reducible refine(HC.out.2.2.1 _ H2.out.1).mono ?_
         rintro e w3 ⟨rfl,hb⟩
         have H3:=Lib.hid (H2.out.2.trans (hb.mono H2.out.2.size))
         clear hb)
      | fail)
    go_ret
    exact⟨rfl,by first|exact H3.out|exact H2.out.2|exact H1.out.2⟩)
set_option maxHeartbeats 1000000 in
theorem pipes_m {g:Nat} {fv:Value} {F:List Lf} {s:Ps} {W:World} (hF:FB F) (h:Mk g fv F s W) (hs:s.p≤F.length) :
    Calls Tryz.prog 31 #[.pointer (some ⟨g,0,none⟩)] W fun e w'=>e=.returned (.bool (pipeB F s))∧Below W.heap.size W w':=by
  have c0:=sign_m hF h hs 0 s.p (by omega) (.inl rfl)
  have c1:=fun W (h:Mk g fv F s W)=>commands_m hF h hs
  unfold pipeB
  generalize sg F s.p=a at *
  generalize cmdB F s=x2 at *
  have k1:((a.toNat:Int)==33)=(a==33):=u8_beq a 33
  generalize (a==33)=x1 at *
  have HC:=Lib.hid (And.intro c0 (And.intro c1 h))
  clear c0 c1 h
  cases x1
  all_goals (
    go_enter Tryz.func31,Tryz.ntmps31
    go_wp2_with (first
      | (go_at_call 49
         with_reducible refine HC.out.1.mono ?_
         rintro e w1 ⟨rfl,hb⟩
         have H1:=Lib.hid (And.intro (HC.out.2.2.next hb).1 hb)
         clear hb)
      | (go_at_call 50
         with_reducible refine(HC.out.2.1 _ H1.out.1).mono ?_
         rintro e w2 ⟨rfl,hb⟩
         have H2:=Lib.hid (H1.out.2.trans (hb.mono H1.out.2.size))
         clear hb)
      | fail)
    go_ret
    exact⟨rfl,by first|exact H2.out|exact H1.out.2⟩)
set_option maxHeartbeats 1000000 in
theorem isWord_m {g:Nat} {fv:Value} {F:List Lf} {s:Ps} {W:World} (hF:FB F) (h:Mk g fv F s W) (hs:s.p≤F.length) :
    Calls Tryz.prog 115 #[.pointer (some ⟨g,0,none⟩)] W fun e w'=>e=.returned (.bool (isW F s.p))∧Below W.heap.size W w':=by
  obtain⟨c0,c1,_⟩:=h.cells
  obtain⟨A,c,rfl⟩:=h.f.formm
  have hn:=hF.n
  have hfr:=h.f
  clear h
  unfold isW
  obtain⟨q,hq⟩:∃q,q=s.p:=⟨_,rfl⟩
  rw[←hq] at c1 hs ⊢
  clear hq
  by_cases hlt:q<F.length
  ·obtain⟨x,hx⟩:∃x,F[q]? = some x:=⟨_,List.getElem?_eq_getElem hlt⟩
   rw[hx]
   obtain⟨g1,o1,rfl,y0,y1,y2,y3⟩:=lf_cells hfr hx rfl
   have u1:(q:Int)<(F.length:Int):=by omega
   have u2:(0:Int)≤(q:Int):=by omega
   simp only
   clear hx hfr hn hs
   go_enter Tryz.func115,Tryz.ntmps115
   go_wp2
   have d1:decide ((q:Int)<(F.length:Int))=true:=decide_eq_true u1
   go_quiet (fail)
   go_wp2
   go_ret
   exact⟨rfl,below_drewN' (Below.refl _ W) _⟩
  ·rw[List.getElem?_eq_none (by omega)]
   have u1:¬(q:Int)<(F.length:Int):=by omega
   simp only
   clear hfr hn hs
   go_enter Tryz.func115,Tryz.ntmps115
   go_wp2
   have d1:decide ((q:Int)<(F.length:Int))=false:=decide_eq_false (by omega)
   go_quiet (fail)
   go_wp2
   go_ret
   exact⟨rfl,below_drewN' (Below.refl _ W) _⟩
end Go.Proofs.YtlbfdbinaekjoaaGreatDoor
