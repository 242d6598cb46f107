/- Motion: stops, and where a cursor goes between them. No program is in sight. -/
import Derived.Test.YtgdifhhioahakaaGreatDoorPl13
namespace Go.Proofs.YtgdifhhioahakaaGreatDoor
set_option linter.unusedVariables false
set_option linter.unusedSimpArgs false
set_option maxRecDepth 100000
def cmpL:List Int→List Int
  | []=>[]
  | a::r=>match cmpL r with
    | []=>[a]
    | b::s=>if a=b then b::s else a::b::s
def stopsL (B:List Int) (n:Int):List Int:=cmpL (0::B++[n])
theorem cmpL_head:∀(l:List Int) (a:Int),∃s,cmpL (a::l)=a::s
  | [],a=>⟨[],rfl⟩
  | b::l,a=>by
    obtain⟨s,h⟩:=cmpL_head l b
    show ∃s',(match cmpL (b::l) with|[]=>[a]|c::s=>if a=c then c::s else a::c::s)=a::s'
    rw[h]
    simp only
    by_cases e:a=b
    ·rw[if_pos e,e];exact⟨s,rfl⟩
    ·rw[if_neg e];exact⟨b::s,rfl⟩
theorem cmpL_mem:∀(l:List Int) (x:Int),x∈cmpL l→x∈l
  | [],x,h=>h
  | a::l,x,h=>by
    have ih:=cmpL_mem l x
    unfold cmpL at h
    cases hc:cmpL l with
    | nil=>rw[hc] at h;simp at h;simp[h]
    | cons b s=>
      rw[hc] at h ih
      simp only at h
      by_cases e:a=b
      ·rw[if_pos e] at h;exact List.mem_cons_of_mem _ (ih h)
      ·rw[if_neg e] at h
       rcases List.mem_cons.1 h with h|h
       ·simp[h]
       ·exact List.mem_cons_of_mem _ (ih h)
theorem cmpL_rise:∀(l:List Int),l.Pairwise (· ≤ ·)→(cmpL l).Pairwise (· < ·)
  | [],_=>.nil
  | a::l,h=>by
    rw[List.pairwise_cons] at h
    have ih:=cmpL_rise l h.2
    unfold cmpL
    cases hc:cmpL l with
    | nil=>simp
    | cons b s=>
      rw[hc] at ih
      simp only
      by_cases e:a=b
      ·rw[if_pos e];exact ih
      ·rw[if_neg e,List.pairwise_cons]
       refine⟨fun x hx=>?_,ih⟩
       have hb:=h.1 b (cmpL_mem l b (by rw[hc];simp))
       rcases List.mem_cons.1 hx with rfl|hx
       ·omega
       ·have:=(List.pairwise_cons.1 ih).1 x hx;omega
theorem cmpL_last:∀(l:List Int) (z:Int),(cmpL (l++[z])).getLast? = some z
  | [],z=>rfl
  | a::l,z=>by
    have ih:=cmpL_last l z
    show (match cmpL (l++[z]) with|[]=>[a]|b::s=>if a=b then b::s else a::b::s).getLast? = some z
    cases hc:cmpL (l++[z]) with
    | nil=>rw[hc] at ih;simp at ih
    | cons b s=>
      rw[hc] at ih
      simp only
      by_cases e:a=b
      ·rw[if_pos e];exact ih
      ·rw[if_neg e,List.getLast?_cons_cons];exact ih
structure Btw (B:List Int) (n:Int):Prop where
  rise:B.Pairwise (· < ·)
  rng:∀x∈B,0≤x∧x<n
theorem stops_ok {B:List Int} {n:Int} (h:Btw B n) (hn:0≤n):(stopsL B n).Pairwise (· < ·)∧(∃s,stopsL B n=0::s)∧(stopsL B n).getLast? = some n:=by
  refine⟨cmpL_rise _ ?_,cmpL_head _ 0,cmpL_last (0::B) n⟩
  rw[List.cons_append,List.pairwise_cons]
  refine⟨fun x hx=>?_,?_⟩
  ·rcases List.mem_append.1 hx with h1|h1
   ·exact(h.rng x h1).1
   ·rw[List.mem_singleton.1 h1];exact hn
  ·rw[List.pairwise_append]
   refine⟨h.rise.imp fun h=>Int.le_of_lt h,by simp,fun x hx y hy=>?_⟩
   rw[List.mem_singleton.1 hy]
   exact Int.le_of_lt (h.rng x hx).2
def inM (n at_:Int):Int:=min (max at_ 0) n
def fwdL (S:List Int) (n a:Int):Int:=match S.find? (fun x=>decide (a<x)) with|some x=>x|none=>n
def bckL (S:List Int) (a:Int):Int:=match (S.takeWhile fun x=>decide (x<a)).getLast? with|some x=>x|none=>0
theorem fwd_next {S:List Int} (h:S.Pairwise (· < ·)) (n:Int) {i:Nat} {x y:Int} (hx:S[i]? = some x) (hy:S[i+1]? = some y):fwdL S n x=y:=by
  unfold fwdL
  have e:S.find? (fun z=>decide (x<z))=some y:=by
    rw[List.find?_eq_some_iff_getElem]
    obtain⟨h1,h2⟩:=List.getElem?_eq_some_iff.1 hy
    obtain⟨h3,h4⟩:=List.getElem?_eq_some_iff.1 hx
    refine⟨decide_eq_true ?_,i+1,h1,h2,fun j hj=>?_⟩
    ·rw[←h2,←h4]
     exact List.pairwise_iff_getElem.1 h i (i+1) h3 h1 (by omega)
    ·have:S[j]'(by omega)≤x:=by
       rcases Nat.lt_or_eq_of_le (Nat.lt_succ_iff.1 hj) with hj2|hj2
       ·rw[←h4];exact Int.le_of_lt (List.pairwise_iff_getElem.1 h j i (by omega) h3 hj2)
       ·subst hj2;rw[h4];exact Int.le_refl _
     simp
     omega
  rw[e]
theorem takeWhile_at:∀{S:List Int} (h:S.Pairwise (· < ·)) {i:Nat} {y:Int} (hy:S[i]? = some y),S.takeWhile (fun x=>decide (x<y))=S.take i
  | [],_,i,y,hy=>by simp at hy
  | a::S,h,0,y,hy=>by
    have e:a=y:=by simpa using hy
    subst e
    simp
  | a::S,h,i+1,y,hy=>by
    rw[List.pairwise_cons] at h
    have hy2:S[i]? = some y:=by simpa using hy
    have hlt:=h.1 y (List.mem_of_getElem? hy2)
    rw[List.takeWhile_cons,if_pos (by simpa using hlt),takeWhile_at h.2 hy2]
    rfl
theorem bck_prev {S:List Int} (h:S.Pairwise (· < ·)) {i:Nat} {x y:Int} (hx:S[i]? = some x) (hy:S[i+1]? = some y):bckL S y=x:=by
  unfold bckL
  rw[takeWhile_at h hy,List.take_add_one,hx]
  simp
end Go.Proofs.YtgdifhhioahakaaGreatDoor
