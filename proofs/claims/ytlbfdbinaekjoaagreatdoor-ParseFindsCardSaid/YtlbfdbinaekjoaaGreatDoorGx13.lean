/- The grammar's forms: plain. -/
import Derived.Test.YtlbfdbinaekjoaaGreatDoorMem
namespace Go.Proofs.YtlbfdbinaekjoaaGreatDoor
set_option linter.unusedVariables false
set_option linter.unusedSimpArgs false
set_option maxRecDepth 100000
inductive Rx
  | eps
  | ch (cs:List UInt8)
  | cat (a b:Rx)
  | alt (a b:Rx)
  | star (a:Rx)
inductive Rm:Rx→List UInt8→Prop
  | eps:Rm .eps []
  | ch {cs:List UInt8} {c:UInt8}:c∈cs→Rm (.ch cs) [c]
  | cat {a b:Rx} {u v:List UInt8}:Rm a u→Rm b v→Rm (.cat a b) (u++v)
  | altl {a b:Rx} {u:List UInt8}:Rm a u→Rm (.alt a b) u
  | altr {a b:Rx} {u:List UInt8}:Rm b u→Rm (.alt a b) u
  | s0 {a:Rx}:Rm (.star a) []
  | s1 {a:Rx} {u v:List UInt8}:Rm a u→Rm (.star a) v→Rm (.star a) (u++v)
theorem Rm.cat_inv {a b:Rx} {w:List UInt8} (h:Rm (.cat a b) w):∃u v,w=u++v∧Rm a u∧Rm b v:=by
  cases h with
  | cat h k=>exact⟨_,_,rfl,h,k⟩
theorem Rm.alt_inv {a b:Rx} {w:List UInt8} (h:Rm (.alt a b) w):Rm a w∨Rm b w:=by
  cases h with
  | altl h=>exact .inl h
  | altr h=>exact .inr h
theorem Rm.star_inv {a:Rx} {w:List UInt8} (h:Rm (.star a) w):w=[]∨∃u v,w=u++v∧Rm a u∧Rm (.star a) v:=by
  cases h with
  | s0=>exact .inl rfl
  | s1 h k=>exact .inr ⟨_,_,rfl,h,k⟩
theorem Rm.eps_inv {w:List UInt8} (h:Rm .eps w):w=[]:=by cases h;rfl
theorem Rm.ch_inv {cs w:List UInt8} (h:Rm (.ch cs) w):∃c,c∈cs∧w=[c]:=by
  cases h with
  | ch h=>exact⟨_,h,rfl⟩
def Rx.nul:Rx→Bool
  | .eps=>true
  | .ch _=>false
  | .cat a b=>a.nul&&b.nul
  | .alt a b=>a.nul||b.nul
  | .star _=>true
def Rx.hd:Rx→List UInt8
  | .eps=>[]
  | .ch cs=>cs
  | .cat a b=>a.hd++(if a.nul=true then b.hd else [])
  | .alt a b=>a.hd++b.hd
  | .star a=>a.hd
theorem Rm.hd {r:Rx} {w:List UInt8} (h:Rm r w):(w=[]∧r.nul=true)∨∃c v,w=c::v∧c∈r.hd:=by
  induction h with
  | eps=>exact .inl ⟨rfl,rfl⟩
  | ch h=>exact .inr ⟨_,[],rfl,h⟩
  | cat _ _ h k=>
    rcases h with ⟨rfl,h⟩|⟨c,v,rfl,h⟩
    ·rcases k with ⟨rfl,k⟩|⟨c,v,rfl,k⟩
     ·exact .inl ⟨rfl,by simp[Rx.nul,h,k]⟩
     ·exact .inr ⟨c,v,rfl,by simp[Rx.hd,h,k]⟩
    ·exact .inr ⟨c,_,rfl,by simp[Rx.hd,h]⟩
  | altl _ h=>
    rcases h with ⟨rfl,h⟩|⟨c,v,rfl,h⟩
    ·exact .inl ⟨rfl,by simp[Rx.nul,h]⟩
    ·exact .inr ⟨c,v,rfl,by simp[Rx.hd,h]⟩
  | altr _ h=>
    rcases h with ⟨rfl,h⟩|⟨c,v,rfl,h⟩
    ·exact .inl ⟨rfl,by simp[Rx.nul,h]⟩
    ·exact .inr ⟨c,v,rfl,by simp[Rx.hd,h]⟩
  | s0=>exact .inl ⟨rfl,rfl⟩
  | s1 _ _ h k=>
    rcases h with ⟨rfl,h⟩|⟨c,v,rfl,h⟩
    ·exact k
    ·exact .inr ⟨c,_,rfl,h⟩
def Rx.app:Rx→Rx→Rx
  | .eps,b=>b
  | .cat a a',b=>a.app (a'.app b)
  | .ch cs,b=>.cat (.ch cs) b
  | .alt a a',b=>.cat (.alt a a') b
  | .star a,b=>.cat (.star a) b
theorem Rm.app:∀(a b:Rx) (u v:List UInt8),Rm a u→Rm b v→Rm (a.app b) (u++v)
  | .eps,b,u,v,h,k=>by rw[h.eps_inv];exact k
  | .cat a a',b,u,v,h,k=>by
    obtain⟨u1,u2,rfl,h1,h2⟩:=h.cat_inv
    rw[List.append_assoc]
    exact Rm.app a _ _ _ h1 (Rm.app a' b _ _ h2 k)
  | .ch cs,b,u,v,h,k=>.cat h k
  | .alt a a',b,u,v,h,k=>.cat h k
  | .star a,b,u,v,h,k=>.cat h k
theorem Rm.fac {p a b:Rx} {w:List UInt8} (h:Rm (.alt (.cat p a) (.cat p b)) w):Rm (.cat p (.alt a b)) w:=by
  rcases h.alt_inv with h|h
  ·obtain⟨u,v,rfl,h1,h2⟩:=h.cat_inv
   exact .cat h1 (.altl h2)
  ·obtain⟨u,v,rfl,h1,h2⟩:=h.cat_inv
   exact .cat h1 (.altr h2)
theorem Rm.opt {p b:Rx} {w:List UInt8} (h:Rm (.alt p (.cat p b)) w):Rm (.cat p (.alt .eps b)) w:=by
  rcases h.alt_inv with h|h
  ·have:=Rm.cat h (Rm.altl (b:=b) Rm.eps);rwa [List.append_nil] at this
  ·obtain⟨u,v,rfl,h1,h2⟩:=h.cat_inv
   exact .cat h1 (.altr h2)
theorem Rm.asc {a b c:Rx} {w:List UInt8} (h:Rm (.cat (.cat a b) c) w):Rm (.cat a (.cat b c)) w:=by
  obtain⟨u,v,rfl,h1,h2⟩:=h.cat_inv
  obtain⟨u1,u2,rfl,h3,h4⟩:=h1.cat_inv
  rw[List.append_assoc]
  exact .cat h3 (.cat h4 h2)
def nlX:Rx:=.star (.ch [110])
def sepX:Rx:=.alt (.cat (.ch [59,38]) nlX) (.cat (.ch [110]) nlX)
def cX:List UInt8:=[83,66,85,70,72,79,67,78]
def rsX:Rx:=.star (.ch [82])
def Rx.lst (r:Rx):Rx:=.cat (.cat r nlX) (.ch [76])
def Rx.o (r:Rx) (c:UInt8):Rx:=.cat r (.ch [c])
def pcX:Nat→Rx
  | 1=>.cat sepX (.ch [65])
  | 2=>.cat (.cat (.ch [97,111]) nlX) (.ch [73])
  | 3=>.cat (.cat (.ch [124]) nlX) (.ch cX)
  | 4=>(Rx.lst ((Rx.lst (.ch [101])).o 116))
  | 5=>.cat (.cat (.ch [84]) (.ch [121])) nlX
  | _=>.cat (.ch [124]) (.ch [87])
def frm:Nat→Rx
  | 1=>.cat nlX (.alt .eps (.ch [76]))
  | 2=>.cat (.cat (.ch [65]) (.star (pcX 1))) (.alt .eps sepX)
  | 3=>.cat (.ch [73]) (.star (pcX 2))
  | 4=>.cat (.cat (.alt .eps (.ch [33])) (.ch cX)) (.star (pcX 3))
  | 5=>.cat (.star (.ch [88,82])) (.alt .eps (.cat (.ch [87]) (.star (.ch [87,82]))))
  | 8=>.cat (.cat (.alt .eps (.ch [35])) (.ch [60])) (.ch [87])
  | 9=>.cat ((Rx.lst (.ch [123])).o 125) rsX
  | 10=>.cat ((Rx.lst (.ch [40])).o 41) rsX
  | 11=>.cat (.cat (.cat (.cat (Rx.lst ((Rx.lst (.ch [105])).o 116)) (.star (pcX 4))) (.alt .eps (Rx.lst (.ch [108])))) (.ch [102])) rsX
  | 12=>.cat ((Rx.lst ((Rx.lst (.ch [119])).o 100)).o 103) rsX
  | 13=>.cat ((Rx.lst ((Rx.cat (.cat (.ch [114]) (.ch [87])) (.alt (.cat (.cat (.cat nlX (.ch [107])) (.star (.ch [87]))) (.alt (.cat (.ch [59]) nlX) (.cat (.ch [110]) nlX))) (.alt (.cat (.ch [59]) nlX) nlX))).o 100)).o 103) rsX
  | 14=>.cat (.cat (.cat (.cat (.cat (.cat (.cat (.cat (.ch [99]) (.ch [87])) nlX) (.ch [107])) nlX) (.star (pcX 5))) (.alt .eps (.ch [84]))) (.ch [122])) rsX
  | 15=>.cat (.cat (.cat (.cat (.cat (.alt .eps (.ch [40])) (.ch [87])) (.star (pcX 6))) (.ch [41])) nlX) (.alt .eps (.ch [76]))
  | 16=>.cat (.cat (.cat (.cat (.ch [87]) (.ch [40])) (.ch [41])) nlX) (.ch [66,85,70,72,79,67])
  | _=>.ch []
end Go.Proofs.YtlbfdbinaekjoaaGreatDoor
