/- Paint: the class of each byte of a text. No program is in sight. -/
import Derived.Test.YtgdifhhioahakaaGreatDoorQc13
import Derived.Test.YtgdifhhioahakaaGreatDoorBy
namespace Go.Proofs.YtgdifhhioahakaaGreatDoor
set_option linter.unusedVariables false
set_option linter.unusedSimpArgs false
set_option maxRecDepth 100000
def seenW (L:List Nd) (u:Int) (i:Nat):Nat:=(L.take i).countP fun x=>x.kd==7&&x.up==u
def cmdW (L:List Nd) (i:Nat):Bool:=match L[i]? with
  | some x=>x.kd==7&&decide (0≤x.up)&&(match L[x.up.toNat]? with|some u=>u.kd==16||u.kd==5&&seenW L x.up i==0|none=>false)
  | none=>false
def coverF (L:List Nd) (leaf:Nat):Nat→Int
  | 0 => -1
  | k+1=>match L[k]? with
    | some x=>if x.fr≤leaf∧leaf<x.tt then (k:Int) else coverF L leaf k
    | none=>coverF L leaf k
def partC (q:Prt):Nat:=if q.mode=4∨q.mode=5∨q.mode=13 then 9 else if q.mode=12 then (if toP q-q.fr=1 then 0 else 10) else if q.mode=7∨q.mode=8 then 10 else 11
def eqA:List UInt8→Nat→Int
  | [],_ => -1
  | c::r,k=>if c==61 then (k:Int) else eqA r (k+1)
def partA (w:List UInt8) (x:Nat):Nat:=if 0≤byF (partsL w) (x:Int) (partsL w).length then partC ((partsL w).getD (byF (partsL w) (x:Int) (partsL w).length).toNat dP) else 0
def wordC (w:List UInt8) (kd:Nat) (cmd:Bool) (x:Nat):Nat:=if partA w x=0 then (if kd=6∧(x:Int)≤eqA w 0 then 8 else if cmd=true then 6 else 7) else partA w x
def wholeC (tk nk:Nat):Nat:=if tk=1∨tk=2 then 1 else if tk=3 then 2 else if tk=7 then 12 else if nk=17 then 13 else if tk=4 then 3 else if tk=5 then 4 else if nk≠7∧nk≠6 then 5 else 0
def isLf (tk:Nat):Bool := !(tk==1||tk==3||tk==7)
def nodeT (L:List Nd) (t:Tk) (k:Nat):Nat:=if isLf t.kd=true then (coverF L k L.length).toNat else 0
def kdA (L:List Nd) (n:Nat):Nat:=match L[n]? with|some x=>x.kd|none=>0
def tokC (l:List UInt8) (L:List Nd) (t:Tk) (k:Nat):List Nat:=
  if wholeC t.kd (kdA L (nodeT L t k))=0 then (List.range (t.to-t.fr)).map (wordC (sub l t.fr t.to) (kdA L (nodeT L t k)) (cmdW L (nodeT L t k)))
  else List.replicate (t.to-t.fr) (wholeC t.kd (kdA L (nodeT L t k)))
def clsF (l:List UInt8) (L:List Nd):List Tk→Nat→List Nat
  | [],_=>[]
  | t::r,k=>tokC l L t k++clsF l L r (if isLf t.kd=true then k+1 else k)
def clsT (l:List UInt8):List Nat:=clsF l (parseT (lvs3 l)).l (lexL l).1 0
theorem tokC_len (l:List UInt8) (L:List Nd) (t:Tk) (k:Nat):(tokC l L t k).length=t.to-t.fr:=by
  unfold tokC
  split<;>simp
theorem clsF_len (l:List UInt8) (L:List Nd):∀(ts:List Tk) (x k:Nat),tileP l ts x→(clsF l L ts k).length+x=l.length
  | [],x,k,h=>by show 0+x=_;rw[show x=l.length from h,Nat.zero_add]
  | t::r,x,k,⟨h1,h2,h3,_,_,h6⟩=>by
    have ih:=clsF_len l L r t.to (if isLf t.kd=true then k+1 else k) h6
    show (tokC l L t k++_).length+x=_
    rw[List.length_append,tokC_len]
    omega
theorem clsT_len (l:List UInt8):(clsT l).length=l.length:=clsF_len l _ _ 0 0 (tile_lexL l)
theorem partC_rng (q:Prt):partC q≤11:=by
  unfold partC
  repeat' split
  all_goals omega
theorem wordC_rng (w:List UInt8) (kd:Nat) (cmd:Bool) (x:Nat):1≤wordC w kd cmd x∧wordC w kd cmd x≤13:=by
  unfold wordC
  by_cases h:partA w x=0
  ·rw[if_pos h]
   repeat' split
   all_goals omega
  ·rw[if_neg h]
   refine⟨by omega,?_⟩
   unfold partA
   split
   ·have:=partC_rng ((partsL w).getD (byF (partsL w) (x:Int) (partsL w).length).toNat dP);omega
   ·omega
theorem wholeC_rng (a b:Nat):wholeC a b≤13:=by
  unfold wholeC
  repeat' split
  all_goals omega
theorem tokC_rng (l:List UInt8) (L:List Nd) (t:Tk) (k:Nat):∀c∈tokC l L t k,1≤c∧c≤13:=by
  intro c hc
  unfold tokC at hc
  split at hc
  ·obtain⟨x,_,rfl⟩:=List.mem_map.1 hc
   exact wordC_rng _ _ _ _
  ·rename_i h
   have h1:=(List.mem_replicate.1 hc).2
   have:=wholeC_rng t.kd (kdA L (nodeT L t k))
   omega
theorem clsF_rng (l:List UInt8) (L:List Nd):∀(ts:List Tk) (k:Nat),∀c∈clsF l L ts k,1≤c∧c≤13
  | [],k,c,h=>by cases h
  | t::r,k,c,h=>by
    rcases List.mem_append.1 h with h|h
    ·exact tokC_rng l L t k c h
    ·exact clsF_rng l L r _ c h
theorem clsT_rng (l:List UInt8):∀c∈clsT l,1≤c∧c≤13:=clsF_rng l _ _ 0
def letC (c:Nat):UInt8:=([63,95,35,124,48,114,99,97,110,113,112,115,104,101]:List UInt8).getD c 0
theorem awk24:(clsT [108,115,32,39,97,39]).map letC=[99,99,95,113,113,113]:=by kernel_rfl
structure Rn where
  c:Nat
  a:Nat
  b:Nat
def addR (out:List Rn) (x c:Nat):List Rn:=match out.getLast? with
  | some r=>if r.c=c then out.dropLast++[⟨c,r.a,x+1⟩] else out++[⟨c,x,x+1⟩]
  | none=>[⟨c,x,x+1⟩]
def runF:List Nat→Nat→List Rn→List Rn
  | [],_,out=>out
  | c::r,x,out=>runF r (x+1) (addR out x c)
def runsT (cs:List Nat):List Rn:=runF cs 0 []
def endR (out:List Rn):Nat→Nat
  | 0=>0
  | i+1=>(out.getD i ⟨0,0,0⟩).b
theorem endR_app (out:List Rn) (m:List Rn):∀i,i≤out.length→endR (out++m) i=endR out i
  | 0,_=>rfl
  | i+1,h=>by
    show ((out++m).getD i (⟨0,0,0⟩:Rn)).b=(out.getD i (⟨0,0,0⟩:Rn)).b
    rw[List.getD_eq_getElem?_getD,List.getD_eq_getElem?_getD,List.getElem?_append_left (by omega)]
structure Rtl (cs:List Nat) (out:List Rn):Prop where
  all:∀i r,out[i]? = some r→r.a<r.b∧r.a=endR out i∧r.b≤cs.length∧(∀x,r.a≤x→x<r.b→cs[x]? = some r.c)∧(∀j q,i=j+1→out[j]? = some q→q.c≠r.c)
  last:endR out out.length=cs.length
theorem Rtl.nil:Rtl [] []:=⟨fun i r h=>by simp at h,rfl⟩
theorem get_last {o:List Rn} {r s:Rn} {i:Nat} (h:(o++[r])[i]? = some s):(i<o.length∧o[i]? = some s)∨(i=o.length∧s=r):=by
  by_cases hi:i<o.length
  ·rw[List.getElem?_append_left hi] at h;exact .inl ⟨hi,h⟩
  ·rw[List.getElem?_append_right (by omega)] at h
   have h0:i-o.length=0:=by have:=(List.getElem?_eq_some_iff.1 h).1;simp at this;omega
   rw[h0] at h
   simp at h
   exact .inr ⟨by omega,h.symm⟩
theorem Rtl.snoc {cs:List Nat} {out:List Rn} (h:Rtl cs out) (c:Nat):Rtl (cs++[c]) (addR out cs.length c):=by
  have hold:∀x k,cs[x]? = some k→(cs++[c])[x]? = some k:=fun x k hx=>by rw[List.getElem?_append_left (List.getElem?_eq_some_iff.1 hx).1];exact hx
  have hnew:(cs++[c])[cs.length]? = some c:=by rw[List.getElem?_append_right (Nat.le_refl _),Nat.sub_self];rfl
  rcases List.eq_nil_or_concat out with rfl|⟨o,r,rfl⟩
  ·have h0:cs.length=0:=h.last.symm
   refine⟨fun i s hs=>?_,by simp[addR,endR]⟩
   obtain⟨hi,rfl⟩:i=0∧s=⟨c,cs.length,cs.length+1⟩:=by
     have hs:[(⟨c,cs.length,cs.length+1⟩:Rn)][i]? = some s:=hs
     have h1:=(List.getElem?_eq_some_iff.1 hs).1
     obtain rfl:i=0:=by simpa using h1
     exact⟨rfl,by simpa using hs.symm⟩
   subst hi
   exact⟨Nat.lt_succ_self _,h0,by simp,fun x h1 h2=>by obtain rfl:x=cs.length:=by {have h1:cs.length≤x:=h1;have h2:x<cs.length+1:=h2;omega};exact hnew,fun j q hj=>by omega⟩
  ·rw[List.concat_eq_append] at h ⊢
   have hr:=h.all o.length r (by rw[List.getElem?_append_right (Nat.le_refl _),Nat.sub_self];rfl)
   have hb:r.b=cs.length:=by
     have:=h.last
     rw[List.length_append] at this
     have e:endR (o++[r]) (o.length+1)=r.b:=by
       show ((o++[r]).getD o.length (⟨0,0,0⟩:Rn)).b=r.b
       rw[List.getD_eq_getElem?_getD,List.getElem?_append_right (Nat.le_refl _),Nat.sub_self]
       rfl
     exact e.symm.trans this
   have hgl:(o++[r]).getLast? = some r:=by simp
   unfold addR
   rw[hgl]
   simp only
   by_cases hc:r.c=c
   ·rw[if_pos hc,List.dropLast_concat]
    refine⟨fun i s hs=>?_,?_⟩
    ·rcases get_last hs with ⟨hi,hs⟩|⟨rfl,rfl⟩
     ·have ho:=h.all i s (by rw[List.getElem?_append_left hi];exact hs)
      refine⟨ho.1,?_,by have:=ho.2.2.1;rw[List.length_append];omega,fun x h1 h2=>hold x _ (ho.2.2.2.1 x h1 h2),fun j q hj hq=>ho.2.2.2.2 j q hj ?_⟩
      ·rw[ho.2.1,endR_app _ _ _ (by omega),endR_app _ _ _ (by omega)]
      ·rw[List.getElem?_append_left (by omega)] at hq ⊢
       exact hq
     ·refine⟨by show r.a<cs.length+1;have:=hr.1;omega,?_,by show cs.length+1≤_;simp,fun x h1 h2=>?_,fun j q hj hq=>?_⟩
      ·show r.a=_
       rw[hr.2.1,endR_app _ _ _ (Nat.le_refl _),endR_app _ _ _ (Nat.le_refl _)]
      ·have h1:r.a≤x:=h1
       have h2:x<cs.length+1:=h2
       by_cases hx:x<cs.length
       ·rw[hold x _ (hr.2.2.2.1 x h1 (by omega)),hc]
       ·obtain rfl:x=cs.length:=by omega
        exact hnew
      ·rw[List.getElem?_append_left (by omega)] at hq
       have:=hr.2.2.2.2 j q hj (by rw[List.getElem?_append_left (by omega)];exact hq)
       show q.c≠c
       rw[←hc]
       exact this
    ·rw[List.length_append]
     show ((o++[_]).getD o.length (⟨0,0,0⟩:Rn)).b=_
     rw[List.getD_eq_getElem?_getD,List.getElem?_append_right (Nat.le_refl _),Nat.sub_self]
     simp
   ·rw[if_neg hc]
    refine⟨fun i s hs=>?_,?_⟩
    ·rcases get_last hs with ⟨hi,hs⟩|⟨rfl,rfl⟩
     ·have ho:=h.all i s hs
      refine⟨ho.1,?_,by have:=ho.2.2.1;rw[List.length_append];omega,fun x h1 h2=>hold x _ (ho.2.2.2.1 x h1 h2),fun j q hj hq=>ho.2.2.2.2 j q hj ?_⟩
      ·rw[ho.2.1,endR_app (o++[r]) _ _ (by omega)]
      ·rw[List.getElem?_append_left (by omega)] at hq
       exact hq
     ·refine⟨Nat.lt_succ_self _,?_,by show cs.length+1≤_;simp,fun x h1 h2=>?_,fun j q hj hq=>?_⟩
      ·show cs.length=_
       rw[endR_app _ _ _ (Nat.le_refl _),h.last]
      ·obtain rfl:x=cs.length:=by {have h1:cs.length≤x:=h1;have h2:x<cs.length+1:=h2;omega}
       exact hnew
      ·rw[List.getElem?_append_left (by omega)] at hq
       have e:j=o.length:=by rw[List.length_append] at hj;simp at hj;omega
       rw[e,List.getElem?_append_right (Nat.le_refl _),Nat.sub_self] at hq
       have e2:r=q:=by simpa using hq
       rw[←e2]
       exact hc
    ·rw[List.length_append]
     show ((o++[r]++[_]).getD (o++[r]).length (⟨0,0,0⟩:Rn)).b=_
     rw[List.getD_eq_getElem?_getD,List.getElem?_append_right (Nat.le_refl _),Nat.sub_self]
     simp
theorem runF_snoc:∀(cs:List Nat) (c x:Nat) (out:List Rn),runF (cs++[c]) x out=addR (runF cs x out) (x+cs.length) c
  | [],c,x,out=>rfl
  | a::r,c,x,out=>by
    show runF (r++[c]) (x+1) _=addR (runF r (x+1) _) _ c
    rw[runF_snoc r c (x+1),show x+1+r.length=x+(a::r).length by simp;omega]
theorem runsT_snoc (cs:List Nat) (c:Nat):runsT (cs++[c])=addR (runsT cs) cs.length c:=by
  unfold runsT
  rw[runF_snoc,Nat.zero_add]
theorem runsT_ok (cs:List Nat):Rtl cs (runsT cs):=by
  have key:∀(r:List Nat),Rtl r.reverse (runsT r.reverse):=by
    intro r
    induction r with
    | nil=>exact .nil
    | cons c r ih=>
      rw[List.reverse_cons,runsT_snoc]
      exact ih.snoc c
  have:=key cs.reverse
  rwa [List.reverse_reverse] at this
def clipR (a b:Int) (r:Int×Int×Int):List (Int×Int×Int):=if max r.2.1 a<min r.2.2 b then [(r.1,max r.2.1 a,min r.2.2 b)] else []
end Go.Proofs.YtgdifhhioahakaaGreatDoor
