/- Plain functions of chapters 4 and 6: the classes of bytes, and the machine of modes as the program and as the reference have it. No program is in sight. -/
import Derived.WalkKit
namespace Go.Proofs.YtlbfdbinaekjoaaGreatDoor
set_option linter.unusedVariables false
set_option linter.unusedSimpArgs false
set_option maxRecDepth 100000
theorem byte_all (p:UInt8→Bool) (h:(List.range 256).all (fun n=>p (UInt8.ofNat n))=true) (c:UInt8):p c=true:=by
  have h1:=List.all_eq_true.1 h c.toNat (List.mem_range.2 c.toNat_lt)
  rwa [UInt8.ofNat_toNat] at h1
def clsOf (c:UInt8):Int:=
  if c.toNat=32∨c.toNat=9 then 1
  else if c.toNat=10 then 2
  else if 48≤c.toNat∧c.toNat≤57 then 6
  else if (97≤c.toNat∧c.toNat≤122)∨(65≤c.toNat∧c.toNat≤90)∨c.toNat=95 then 5
  else if c.toNat=124∨c.toNat=38∨c.toNat=59∨c.toNat=60∨c.toNat=62∨c.toNat=40∨c.toNat=41 then 3
  else if c.toNat=92∨c.toNat=39∨c.toNat=34∨c.toNat=96∨c.toNat=36 then 4
  else 0
def endsB (c:UInt8):Bool:=decide (clsOf c=1∨clsOf c=2∨clsOf c=3)
def modeOf (c:UInt8):Int:=
  if c.toNat=84 then 0 else if c.toNat=67 then 1 else if c.toNat=80 then 2 else if c.toNat=79 then 3 else if c.toNat=83 then 4 else if c.toNat=68 then 5 else if c.toNat=66 then 6
  else if c.toNat=86 then 7 else if c.toNat=73 then 8 else if c.toNat=65 then 9 else if c.toNat=82 then 10 else if c.toNat=69 then 11 else if c.toNat=76 then 12 else if c.toNat=88 then 13 else if c.toNat=35 then 14 else 15
def inL (c:UInt8) (l:List UInt8):Bool:=l.any fun d=>decide (d.toNat=c.toNat)
theorem inL_snoc (c:UInt8) (l:List UInt8) (k:Nat) (h:k<l.length):inL c (l.take (k+1))=(inL c (l.take k)||decide ((l[k]'h).toNat=c.toNat)):=by
  unfold inL
  rw[List.take_succ_eq_append_getElem h,List.any_append]
  simp
theorem inL_of_take (c:UInt8) (l:List UInt8) (k:Nat) (h:inL c (l.take k)=true):inL c l=true:=by
  unfold inL at h ⊢
  rw[List.any_eq_true] at h ⊢
  obtain⟨x,hx,hp⟩:=h
  exact⟨x,List.mem_of_mem_take hx,hp⟩
def isMeta:List UInt8:=[124,38,59,60,62,40,41]
def isQuote:List UInt8:=[92,39,34,96,36]
def isLetter:List UInt8:=[65,66,67,68,69,70,71,72,73,74,75,76,77,78,79,80,81,82,83,84,85,86,87,88,89,90,97,98,99,100,101,102,103,104,105,106,107,108,109,110,111,112,113,114,115,116,117,118,119,120,121,122,95]
def isDigit:List UInt8:=[48,49,50,51,52,53,54,55,56,57]
def clsIn (c:UInt8):Int:=
  if c.toNat=32∨c.toNat=9 then 1 else if c.toNat=10 then 2 else if inL c isMeta=true then 3 else if inL c isQuote=true then 4 else if inL c isLetter=true then 5 else if inL c isDigit=true then 6 else 0
theorem clsIn_eq (c:UInt8):clsIn c=clsOf c:=by
  have h:=byte_all (fun c=>clsIn c==clsOf c) (by decide +kernel) c
  simpa using h
def opensL (c:UInt8):List UInt8:=if c.toNat=92 then [88] else if c.toNat=36 then [76] else if c.toNat=96 then [66] else []
abbrev Stk:=List (UInt8×Int)
def rProgram (st:Stk) (f:Bool) (c b:UInt8) (at_:Int):Stk×Bool:=
  if b.toNat=92 then ((88,at_)::st,f)
  else if b.toNat=39 then ((83,at_)::st,false)
  else if b.toNat=34 then ((68,at_)::st,false)
  else if b.toNat=96 then ((66,at_)::st,false)
  else if b.toNat=36 then ((76,at_)::st,false)
  else if b.toNat=35∧f=true then ((35,at_)::st,f)
  else if b.toNat=40 then (if c.toNat=84 then (st,true) else ((80,at_)::st,true))
  else if b.toNat=41 then (if c.toNat=84 then (st,true) else (st.tail,decide (c.toNat=80)))
  else (st,endsB b)
def rPlain (st:Stk) (f:Bool) (c b:UInt8) (at_:Int):Stk×Bool:=
  if c.toNat=84∨c.toNat=67∨c.toNat=80 then rProgram st f c b at_
  else if c.toNat=88 then (st.tail,if b.toNat=10 then f else false)
  else if c.toNat=83 then (if b.toNat=39 then (st.tail,f) else (st,f))
  else if c.toNat=35 then (if b.toNat=10 then (st.tail,true) else (st,f))
  else if c.toNat=66 then (if b.toNat=96 then (st.tail,f) else if b.toNat=92 then ((88,at_)::st,f) else (st,f))
  else if b.toNat=92 then ((88,at_)::st,f)
  else if b.toNat=36 then ((76,at_)::st,f)
  else if b.toNat=96 then ((66,at_)::st,f)
  else if c.toNat=65∨c.toNat=82 then
    (if b.toNat=40 then ((82,at_)::st,f) else if b.toNat=41∧c.toNat=82 then (st.tail,f)
     else if b.toNat=41 then (match st with|[]=>[]|(_,p)::r=>(69,p)::r,f) else (st,f))
  else if c.toNat=68 then (if b.toNat=34 then (st.tail,f) else (st,f))
  else if b.toNat=34 then ((68,at_)::st,f)
  else if b.toNat=125 then (st.tail,f)
  else if b.toNat=39∧c.toNat=86 then ((83,at_)::st,f)
  else (st,f)
def rStep (st:Stk) (f:Bool) (b:UInt8) (at_:Int):Stk×Bool:=
  match st with
  | []=>([],f)
  | (c,p)::r=>
    if c.toNat=76 then
      (if b.toNat=40 then ((79,p)::r,true)
       else if b.toNat=123 then
         (match r with
          | (d,_)::_=>if d.toNat=68∨d.toNat=73 then ((73,p)::r,f) else ((86,p)::r,f)
          | []=>((86,p)::r,f))
       else if b.toNat=36 then (r,f)
       else match r with
          | (d,_)::_=>rPlain r f d b at_
          | []=>(r,f))
    else if c.toNat=79 then
      (if b.toNat=40 then ((65,p)::r,false) else rPlain ((67,p)::r) f 67 b at_)
    else if c.toNat=69 then
      (if b.toNat=41 then (r,f) else rPlain ((65,p)::r) f 65 b at_)
    else rPlain st f c b at_
end Go.Proofs.YtlbfdbinaekjoaaGreatDoor
namespace Go.Proofs.YtlbfdbinaekjoaaGreatDoor
set_option linter.unusedVariables false
set_option linter.unusedSimpArgs false
set_option maxRecDepth 100000
def Bot:Stk→Prop
  | []=>False
  | [(c,_)]=>c=84
  | (c,_)::r=>c≠84∧Bot r
theorem Bot.ne {st:Stk} (h:Bot st):st≠[]:=by rintro rfl;exact h
theorem Bot.single {c:UInt8} {p:Int} (h:Bot [(c,p)]):c=84:=h
theorem Bot.cons {c:UInt8} {p:Int} {st:Stk} (hc:c≠84) (h:Bot st):Bot ((c,p)::st):=by
  cases st with
  | nil=>exact h.elim
  | cons x r=>exact⟨hc,h⟩
theorem Bot.tail {c:UInt8} {p:Int} {st:Stk} (hc:c≠84) (h:Bot ((c,p)::st)):Bot st:=by
  cases st with
  | nil=>exact(hc h).elim
  | cons x r=>exact h.2
theorem Bot.turn {c d:UInt8} {p q:Int} {st:Stk} (hc:c≠84) (hd:d≠84) (h:Bot ((c,p)::st)):Bot ((d,q)::st):=(h.tail hc).cons hd
theorem Bot.turn' {c d:UInt8} {p q:Int} {st:Stk} (hc:c.toNat≠84) (hd:d≠84) (h:Bot ((c,p)::st)):Bot ((d,q)::st):=h.turn (fun e=>hc (by rw[e];rfl)) hd
theorem Bot.tail' {c:UInt8} {p:Int} {st:Stk} (hc:c.toNat≠84) (h:Bot ((c,p)::st)):Bot st:=h.tail (fun e=>hc (by rw[e];rfl))
theorem ite_ok {α:Type} (P:α→Prop) {c:Prop} [Decidable c] {a b:α} (h1:c→P a) (h2:¬c→P b):P (if c then a else b):=by
  by_cases h:c
  ·rw[if_pos h];exact h1 h
  ·rw[if_neg h];exact h2 h
theorem rProgram_bot (r:Stk) (f:Bool) (c b:UInt8) (p at_:Int) (h:Bot ((c,p)::r)):Bot (rProgram ((c,p)::r) f c b at_).1:=by
  unfold rProgram
  repeat' (refine ite_ok (fun x:Stk×Bool=>Bot x.1) (fun _=>?_) (fun _=>?_))
  all_goals first
    | exact h
    | exact h.cons (by decide)
    | exact h.tail' (by omega)
theorem rPlain_bot (r:Stk) (f:Bool) (c b:UInt8) (p at_:Int) (h:Bot ((c,p)::r)):Bot (rPlain ((c,p)::r) f c b at_).1:=by
  unfold rPlain
  repeat' (refine ite_ok (fun x:Stk×Bool=>Bot x.1) (fun _=>?_) (fun _=>?_))
  all_goals first
    | exact rProgram_bot _ _ _ _ _ _ h
    | exact h
    | exact h.cons (by decide)
    | exact h.tail' (by omega)
    | exact h.turn' (by omega) (by decide)
theorem rStep_bot (st:Stk) (f:Bool) (b:UInt8) (at_:Int) (h:Bot st):Bot (rStep st f b at_).1:=by
  match st,h with
  | (c,p)::r,h=>
    unfold rStep
    refine ite_ok (fun x:Stk×Bool=>Bot x.1) (fun hc=>?_) (fun _=>?_)
    ·have ht:=h.tail' (by omega)
     refine ite_ok (fun x:Stk×Bool=>Bot x.1) (fun _=>h.turn' (by omega) (by decide)) (fun _=>?_)
     refine ite_ok (fun x:Stk×Bool=>Bot x.1) (fun _=>?_) (fun _=>?_)
     ·cases r with
      | nil=>exact h.turn' (by omega) (by decide)
      | cons x r=>
        obtain⟨d,q⟩:=x
        exact ite_ok (fun x:Stk×Bool=>Bot x.1) (fun _=>h.turn' (by omega) (by decide)) (fun _=>h.turn' (by omega) (by decide))
     ·refine ite_ok (fun x:Stk×Bool=>Bot x.1) (fun _=>ht) (fun _=>?_)
      cases r with
      | nil=>exact ht
      | cons x r=>obtain⟨d,q⟩:=x;exact rPlain_bot _ _ _ _ _ _ ht
    ·refine ite_ok (fun x:Stk×Bool=>Bot x.1) (fun _=>?_) (fun _=>?_)
     ·exact ite_ok (fun x:Stk×Bool=>Bot x.1) (fun _=>h.turn' (by omega) (by decide)) (fun _=>rPlain_bot _ _ _ _ _ _ (h.turn' (by omega) (by decide)))
     ·refine ite_ok (fun x:Stk×Bool=>Bot x.1) (fun _=>?_) (fun _=>rPlain_bot _ _ _ _ _ _ h)
      exact ite_ok (fun x:Stk×Bool=>Bot x.1) (fun _=>h.tail' (by omega)) (fun _=>rPlain_bot _ _ _ _ _ _ (h.turn' (by omega) (by decide)))
theorem rProgram_len (st:Stk) (f:Bool) (c b:UInt8) (at_:Int):(rProgram st f c b at_).1.length≤st.length+1:=by
  unfold rProgram
  repeat' (refine ite_ok (fun x:Stk×Bool=>x.1.length≤st.length+1) (fun _=>?_) (fun _=>?_))
  all_goals (simp;try omega)
theorem rPlain_len (st:Stk) (f:Bool) (c b:UInt8) (at_:Int):(rPlain st f c b at_).1.length≤st.length+1:=by
  have h0:=rProgram_len st f c b at_
  unfold rPlain
  repeat' (refine ite_ok (fun x:Stk×Bool=>x.1.length≤st.length+1) (fun _=>?_) (fun _=>?_))
  all_goals first
    | exact h0
    | (simp;done)
    | (simp;omega)
    | (cases st<;>simp)
theorem rStep_len (st:Stk) (f:Bool) (b:UInt8) (at_:Int):(rStep st f b at_).1.length≤st.length+1:=by
  match st with
  | []=>simp[rStep]
  | (c,p)::r=>
    have h1:=rPlain_len ((c,p)::r) f c b at_
    have h2:=rPlain_len ((67,p)::r) f 67 b at_
    have h3:=rPlain_len ((65,p)::r) f 65 b at_
    unfold rStep
    refine ite_ok (fun x:Stk×Bool=>x.1.length≤r.length+1+1) (fun hc=>?_) (fun _=>?_)
    ·refine ite_ok (fun x:Stk×Bool=>x.1.length≤r.length+1+1) (fun _=>by simp) (fun _=>?_)
     refine ite_ok (fun x:Stk×Bool=>x.1.length≤r.length+1+1) (fun _=>?_) (fun _=>?_)
     ·cases r with
      | nil=>simp
      | cons x r=>exact ite_ok (fun x:Stk×Bool=>x.1.length≤_) (fun _=>by simp) (fun _=>by simp)
     ·refine ite_ok (fun x:Stk×Bool=>x.1.length≤r.length+1+1) (fun _=>by simp;omega) (fun _=>?_)
      cases r with
      | nil=>simp
      | cons x r=>exact Nat.le_succ_of_le (rPlain_len _ _ _ _ _)
    ·refine ite_ok (fun x:Stk×Bool=>x.1.length≤r.length+1+1) (fun _=>?_) (fun _=>?_)
     ·exact ite_ok (fun x:Stk×Bool=>x.1.length≤_) (fun _=>by simp) (fun _=>h2)
     ·refine ite_ok (fun x:Stk×Bool=>x.1.length≤r.length+1+1) (fun _=>?_) (fun _=>h1)
      exact ite_ok (fun x:Stk×Bool=>x.1.length≤_) (fun _=>by simp;omega) (fun _=>h3)
def rAt (l:List UInt8):Nat→Stk×Bool
  | 0=>([(84,0)],true)
  | k+1=>rStep (rAt l k).1 (rAt l k).2 (l.getD k 0) k
theorem rAt_bot (l:List UInt8):∀k,Bot (rAt l k).1
  | 0=>rfl
  | k+1=>rStep_bot _ _ _ _ (rAt_bot l k)
theorem rAt_len (l:List UInt8):∀k,(rAt l k).1.length≤k+1
  | 0=>by simp[rAt]
  | k+1=>by
    have h1:=rStep_len (rAt l k).1 (rAt l k).2 (l.getD k 0) k
    have h2:=rAt_len l k
    simp only[rAt]
    omega
end Go.Proofs.YtlbfdbinaekjoaaGreatDoor
namespace Go.Proofs.YtlbfdbinaekjoaaGreatDoor
set_option linter.unusedVariables false
set_option linter.unusedSimpArgs false
set_option maxRecDepth 100000
def Mid (c:UInt8):Bool:=[84,67,80,66,68,86,73,65,82].contains c
def Val (c:UInt8):Bool:=[84,67,80,79,83,68,66,86,73,65,82,69,76,88,35].contains c
theorem mid_val (c:UInt8) (h:Mid c=true):Val c=true:=by
  have:=byte_all (fun c => !Mid c||Val c) (by decide +kernel) c
  simpa [h] using this
theorem mid_of (c:UInt8) (hv:Val c=true) (h1:c.toNat≠79) (h2:c.toNat≠69) (h3:c.toNat≠76) (h4:c.toNat≠88) (h5:c.toNat≠83) (h6:c.toNat≠35):Mid c=true:=by
  have:=byte_all (fun c => !Val c||c.toNat==79||c.toNat==69||c.toNat==76||c.toNat==88||c.toNat==83||c.toNat==35||Mid c) (by decide +kernel) c
  simpa [hv,h1,h2,h3,h4,h5,h6] using this
def Vst:Stk→Prop
  | []=>True
  | (c,_)::r=>Val c=true∧∀y∈r,Mid y.1=true
theorem Vst.of_mid {r:Stk} (h:∀y∈r,Mid y.1=true):Vst r:=by
  cases r with
  | nil=>trivial
  | cons x r=>exact⟨mid_val _ (h x (by simp)),fun y hy=>h y (by simp[hy])⟩
theorem Vst.push {c d:UInt8} {p q:Int} {r:Stk} (hd:Val d=true) (hc:Mid c=true) (h:∀y∈r,Mid y.1=true):Vst ((d,q)::(c,p)::r):=
  ⟨hd,fun y hy=>by
    rcases List.mem_cons.1 hy with rfl|hy
    ·exact hc
    ·exact h y hy⟩
theorem Vst.turn {d:UInt8} {q:Int} {r:Stk} (hd:Val d=true) (h:∀y∈r,Mid y.1=true):Vst ((d,q)::r):=⟨hd,h⟩
theorem mid3 (c:UInt8) (h:c.toNat=84∨c.toNat=67∨c.toNat=80):Mid c=true:=by
  have:=byte_all (fun c => !(c.toNat==84||c.toNat==67||c.toNat==80)||Mid c) (by decide +kernel) c
  rcases h with h|h|h<;>simpa [h] using this
theorem mid66 (c:UInt8) (h:c.toNat=66):Mid c=true:=by
  have:=byte_all (fun c => !(c.toNat==66)||Mid c) (by decide +kernel) c
  simpa [h] using this
theorem rProgram_v (r:Stk) (f:Bool) (c b:UInt8) (p at_:Int) (hv:Val c=true) (hc:Mid c=true) (h:∀y∈r,Mid y.1=true):Vst (rProgram ((c,p)::r) f c b at_).1:=by
  unfold rProgram
  repeat' (refine ite_ok (fun x:Stk×Bool=>Vst x.1) (fun _=>?_) (fun _=>?_))
  all_goals first
    | exact Vst.push (by decide) hc h
    | exact⟨hv,h⟩
    | exact Vst.of_mid h
theorem rPlain_v (r:Stk) (f:Bool) (c b:UInt8) (p at_:Int) (hv:Val c=true) (h79:c.toNat≠79) (h69:c.toNat≠69) (h76:c.toNat≠76) (h:∀y∈r,Mid y.1=true):Vst (rPlain ((c,p)::r) f c b at_).1:=by
  unfold rPlain
  repeat' (refine ite_ok (fun x:Stk×Bool=>Vst x.1) (fun _=>?_) (fun _=>?_))
  all_goals first
    | exact rProgram_v _ _ _ _ _ _ hv (mid3 c (by omega)) h
    | exact⟨hv,h⟩
    | exact Vst.of_mid h
    | exact Vst.turn (by decide) h
    | exact Vst.push (by decide) (mid66 c (by omega)) h
    | exact Vst.push (by decide) (mid_of c hv h79 h69 h76 (by omega) (by omega) (by omega)) h
theorem mid_ne (d:UInt8) (h:Mid d=true):d.toNat≠79∧d.toNat≠69∧d.toNat≠76:=by
  have:=byte_all (fun c => !Mid c||(c.toNat != 79&&c.toNat != 69&&c.toNat != 76)) (by decide +kernel) d
  simpa [h,and_assoc] using this
theorem rStep_v (st:Stk) (f:Bool) (b:UInt8) (at_:Int) (h:Vst st):Vst (rStep st f b at_).1:=by
  match st,h with
  | [],_=>trivial
  | (c,p)::r,⟨hv,h⟩=>
    unfold rStep
    refine ite_ok (fun x:Stk×Bool=>Vst x.1) (fun hc=>?_) (fun _=>?_)
    ·refine ite_ok (fun x:Stk×Bool=>Vst x.1) (fun _=>Vst.turn (by decide) h) (fun _=>?_)
     refine ite_ok (fun x:Stk×Bool=>Vst x.1) (fun _=>?_) (fun _=>?_)
     ·cases r with
      | nil=>exact Vst.turn (by decide) h
      | cons x r=>obtain⟨d,q⟩:=x;exact ite_ok (fun x:Stk×Bool=>Vst x.1) (fun _=>Vst.turn (by decide) h) (fun _=>Vst.turn (by decide) h)
     ·refine ite_ok (fun x:Stk×Bool=>Vst x.1) (fun _=>Vst.of_mid h) (fun _=>?_)
      cases r with
      | nil=>trivial
      | cons x r=>
        obtain⟨d,q⟩:=x
        have hd:=h (d,q) (by simp)
        obtain⟨h1,h2,h3⟩:=mid_ne d hd
        exact rPlain_v _ _ _ _ _ _ (mid_val _ hd) h1 h2 h3 (fun y hy=>h y (by simp[hy]))
    ·refine ite_ok (fun x:Stk×Bool=>Vst x.1) (fun _=>?_) (fun _=>?_)
     ·exact ite_ok (fun x:Stk×Bool=>Vst x.1) (fun _=>Vst.turn (by decide) h) (fun _=>rPlain_v _ _ _ _ _ _ (by decide) (by decide) (by decide) (by decide) h)
     ·refine ite_ok (fun x:Stk×Bool=>Vst x.1) (fun _=>?_) (fun _=>rPlain_v _ _ _ _ _ _ hv (by omega) (by omega) (by omega) h)
      exact ite_ok (fun x:Stk×Bool=>Vst x.1) (fun _=>Vst.of_mid h) (fun _=>rPlain_v _ _ _ _ _ _ (by decide) (by decide) (by decide) (by decide) h)
theorem rAt_v (l:List UInt8):∀k,Vst (rAt l k).1
  | 0=>⟨by decide,by simp⟩
  | k+1=>rStep_v _ _ _ _ (rAt_v l k)
end Go.Proofs.YtlbfdbinaekjoaaGreatDoor
namespace Go.Proofs.YtlbfdbinaekjoaaGreatDoor
set_option linter.unusedVariables false
set_option linter.unusedSimpArgs false
set_option maxRecDepth 100000
def endB (st:Stk) (c:UInt8):Bool:=
  endsB c&&(match st with
    | [_]=>true
    | [(d,_),_]=>decide (d.toNat=76)&&decide (c.toNat≠40)
    | _=>false)
def endF (stop:Nat→Bool):Nat→Nat→Nat
  | 0,k=>k
  | m+1,k=>if stop k=true then k else endF stop m (k+1)
theorem endF_stop {stop:Nat→Bool} {m k:Nat} (h:stop k=true):endF stop m k=k:=by
  cases m with
  | zero=>rfl
  | succ m=>simp[endF,h]
theorem endF_go {stop:Nat→Bool} {m k:Nat} (h:stop k=false) (hm:0<m):endF stop m k=endF stop (m-1) (k+1):=by
  cases m with
  | zero=>omega
  | succ m=>simp[endF,h]
end Go.Proofs.YtlbfdbinaekjoaaGreatDoor
namespace Go.Proofs.YtlbfdbinaekjoaaGreatDoor
set_option linter.unusedVariables false
set_option linter.unusedSimpArgs false
set_option maxRecDepth 100000
def Tcp (c:UInt8):Prop:=c.toNat=84∨c.toNat=67∨c.toNat=80
def Hd (st:Stk):Prop:=∀c p r,st=(c,p)::r→Tcp c
def FO (st:Stk):Prop:=∀c p r,st=(c,p)::r→Tcp c∨c.toNat=79∨((c.toNat=88∨c.toNat=35)∧Hd r)
def AO:Stk→Prop
  | []=>True
  | (c,_)::r=>((c.toNat=80∨c.toNat=35)→Hd r)∧AO r
theorem Hd.of {c:UInt8} {p:Int} {r:Stk} (h:Tcp c):Hd ((c,p)::r):=by
  rintro _ _ _ ⟨rfl,rfl⟩;exact h
theorem FO.x {c:UInt8} {p:Int} {r:Stk} (h:c.toNat=88∨c.toNat=35) (hr:Hd r):FO ((c,p)::r):=by
  rintro _ _ _ ⟨rfl,rfl⟩;exact .inr (.inr ⟨h,hr⟩)
theorem AO.push {c:UInt8} {p:Int} {r:Stk} (h:c.toNat≠80∧c.toNat≠35) (hr:AO r):AO ((c,p)::r):=⟨fun h'=>by omega,hr⟩
end Go.Proofs.YtlbfdbinaekjoaaGreatDoor
namespace Go.Proofs.YtlbfdbinaekjoaaGreatDoor
set_option linter.unusedVariables false
set_option linter.unusedSimpArgs false
set_option maxRecDepth 100000
def BI:Stk→Prop
  | []=>False
  | [(c,_)]=>c.toNat=79∨c.toNat=67∨c.toNat=65
  | _::y::r=>BI (y::r)
theorem BI.ne {x:Stk} (h:BI x):x≠[]:=by rintro rfl;exact h
theorem BI.push {c:UInt8} {p:Int} {x:Stk} (h:BI x):BI ((c,p)::x):=by
  cases x with
  | nil=>exact h.elim
  | cons y r=>exact h
theorem BI.one {c:UInt8} {p:Int} (h:c.toNat=79∨c.toNat=67∨c.toNat=65):BI [(c,p)]:=h
theorem BI.pop {c:UInt8} {q:Int} {r:Stk} (h:BI ((c,q)::r)) (h1:c.toNat≠79) (h2:c.toNat≠67) (h3:c.toNat≠65):BI r:=by
  cases r with
  | nil=>have:c.toNat=79∨c.toNat=67∨c.toNat=65:=h
         omega
  | cons y r=>exact h
theorem BI.turn {c d:UInt8} {q u:Int} {r:Stk} (h:BI ((c,q)::r)) (hd:d.toNat=79∨d.toNat=67∨d.toNat=65∨r≠[]):BI ((d,u)::r):=by
  cases r with
  | nil=>rcases hd with h|h|h|h
         ·exact .inl h
         ·exact .inr (.inl h)
         ·exact .inr (.inr h)
         ·exact absurd rfl h
  | cons y r=>exact h
end Go.Proofs.YtlbfdbinaekjoaaGreatDoor
namespace Go.Proofs.YtlbfdbinaekjoaaGreatDoor
set_option linter.unusedVariables false
set_option linter.unusedSimpArgs false
set_option maxRecDepth 100000
def PlB (PB:Int→Prop) (x:Stk×Bool):Prop:=∀y∈x.1,PB y.2
theorem PlB.cons {PB:Int→Prop} {c:UInt8} {q:Int} {st:Stk} {f g:Bool} (h:PlB PB (st,f)) (ha:PB q):PlB PB ((c,q)::st,g):=by
  intro y hy
  rcases List.mem_cons.1 hy with rfl|hy
  ·exact ha
  ·exact h y hy
theorem PlB.tail {PB:Int→Prop} {st:Stk} {f g:Bool} (h:PlB PB (st,f)):PlB PB (st.tail,g):=fun y hy=>h y (List.mem_of_mem_tail hy)
theorem PlB.any {PB:Int→Prop} {st:Stk} {f g:Bool} (h:PlB PB (st,f)):PlB PB (st,g):=h
end Go.Proofs.YtlbfdbinaekjoaaGreatDoor
namespace Go.Proofs.YtlbfdbinaekjoaaGreatDoor
set_option linter.unusedVariables false
set_option linter.unusedSimpArgs false
set_option maxRecDepth 100000
abbrev pls (st:Stk):List Int:=st.map (·.2)
def Plq (ps:List Int) (a:Int) (x:Stk×Bool):Prop:=∃m,pls x.1=ps.drop m∨pls x.1=a::ps.drop m
theorem Plq.same {st st':Stk} {f:Bool} {a:Int} (h:pls st'=pls st):Plq (pls st) a (st',f):=⟨0,.inl h⟩
theorem Plq.push {st:Stk} {c:UInt8} {f:Bool} {a:Int}:Plq (pls st) a ((c,a)::st,f):=⟨0,.inr rfl⟩
theorem Plq.tail {st:Stk} {f:Bool} {a:Int}:Plq (pls st) a (st.tail,f):=⟨1,.inl (by simp[pls,List.drop_one,List.map_tail])⟩
theorem Plq.deep {y:UInt8×Int} {st:Stk} {a:Int} {x:Stk×Bool} (h:Plq (pls st) a x):Plq (pls (y::st)) a x:=by
  obtain⟨m,h⟩:=h
  exact⟨m+1,by simpa [pls] using h⟩
theorem rProgram_q (st:Stk) (f:Bool) (c b:UInt8) (a:Int):Plq (pls st) a (rProgram st f c b a):=by
  unfold rProgram
  repeat' (refine ite_ok (Plq (pls st) a) (fun _=>?_) (fun _=>?_))
  all_goals first
    | exact Plq.push
    | exact Plq.tail
    | exact Plq.same rfl
theorem rPlain_q (st:Stk) (f:Bool) (c b:UInt8) (a:Int):Plq (pls st) a (rPlain st f c b a):=by
  unfold rPlain
  repeat' (refine ite_ok (Plq (pls st) a) (fun _=>?_) (fun _=>?_))
  all_goals first
    | exact rProgram_q _ _ _ _ _
    | exact Plq.push
    | exact Plq.tail
    | exact Plq.same rfl
    | (refine Plq.same ?_;cases st<;>rfl)
theorem rStep_q (st:Stk) (f:Bool) (b:UInt8) (a:Int):Plq (pls st) a (rStep st f b a):=by
  match st with
  | []=>exact Plq.same rfl
  | (c,p)::r=>
    unfold rStep
    refine ite_ok (Plq (pls ((c,p)::r)) a) (fun _=>?_) (fun _=>?_)
    ·refine ite_ok (Plq (pls ((c,p)::r)) a) (fun _=>Plq.same rfl) (fun _=>?_)
     refine ite_ok (Plq (pls ((c,p)::r)) a) (fun _=>?_) (fun _=>?_)
     ·cases r with
      | nil=>exact Plq.same rfl
      | cons y r=>exact ite_ok (Plq (pls ((c,p)::y::r)) a) (fun _=>Plq.same rfl) (fun _=>Plq.same rfl)
     ·refine ite_ok (Plq (pls ((c,p)::r)) a) (fun _=>(Plq.same rfl).deep) (fun _=>?_)
      cases r with
      | nil=>exact(Plq.same rfl).deep
      | cons y r=>exact(rPlain_q _ _ _ _ _).deep
    ·refine ite_ok (Plq (pls ((c,p)::r)) a) (fun _=>?_) (fun _=>?_)
     ·exact ite_ok (Plq (pls ((c,p)::r)) a) (fun _=>Plq.same rfl) (fun _=>rPlain_q ((67,p)::r) _ _ _ _)
     ·refine ite_ok (Plq (pls ((c,p)::r)) a) (fun _=>?_) (fun _=>rPlain_q _ _ _ _ _)
      exact ite_ok (Plq (pls ((c,p)::r)) a) (fun _=>(Plq.same rfl).deep) (fun _=>rPlain_q ((65,p)::r) _ _ _ _)
def XT (l:List UInt8) (k:Nat):Stk:=(rAt l k).1.dropLast
def FT (l:List UInt8) (k:Nat):Stk:=(XT l k).reverse
theorem bot_split {st:Stk} (h:Bot st):∃p,st=st.dropLast++[(84,p)]:=by
  induction st with
  | nil=>exact h.elim
  | cons x r ih=>
    cases r with
    | nil=>obtain⟨c,p⟩:=x;obtain rfl:c=84:=h;exact⟨p,rfl⟩
    | cons y r=>
      obtain⟨p,hp⟩:=ih h.2
      exact⟨p,by rw[List.dropLast_cons_cons,List.cons_append,←hp]⟩
def Z84 (x:Stk×Bool):Prop:=∀y∈x.1,y.1=84→y.2=0
theorem Z84.cons {c:UInt8} {q:Int} {st:Stk} {f g:Bool} (h:Z84 (st,f)) (hc:c≠84):Z84 ((c,q)::st,g):=by
  intro y hy e
  rcases List.mem_cons.1 hy with rfl|hy
  ·exact absurd e hc
  ·exact h y hy e
theorem Z84.tail {st:Stk} {f g:Bool} (h:Z84 (st,f)):Z84 (st.tail,g):=fun y hy=>h y (List.mem_of_mem_tail hy)
theorem Z84.any {st:Stk} {f g:Bool} (h:Z84 (st,f)):Z84 (st,g):=h
theorem rProgram_z (st:Stk) (f:Bool) (c b:UInt8) (a:Int) (h:Z84 (st,f)):Z84 (rProgram st f c b a):=by
  unfold rProgram
  repeat' (refine ite_ok Z84 (fun _=>?_) (fun _=>?_))
  all_goals first
    | exact h.any
    | exact h.cons (by decide)
    | exact h.tail
theorem rPlain_z (st:Stk) (f:Bool) (c b:UInt8) (a:Int) (h:Z84 (st,f)):Z84 (rPlain st f c b a):=by
  unfold rPlain
  repeat' (refine ite_ok Z84 (fun _=>?_) (fun _=>?_))
  all_goals first
    | exact rProgram_z st f c b a h
    | exact h.any
    | exact h.cons (by decide)
    | exact h.tail
    | (cases st with
       | nil=>exact h.any
       | cons y r=>exact Z84.cons (f:=f) (fun z hz=>h z (List.mem_cons_of_mem _ hz)) (by decide))
theorem rStep_z (st:Stk) (f:Bool) (b:UInt8) (a:Int) (h:Z84 (st,f)):Z84 (rStep st f b a):=by
  match st,h with
  | [],h=>exact h
  | (c,p)::r,h=>
    have hr:Z84 (r,f):=fun z hz=>h z (List.mem_cons_of_mem _ hz)
    unfold rStep
    refine ite_ok Z84 (fun _=>?_) (fun _=>?_)
    ·refine ite_ok Z84 (fun _=>hr.cons (by decide)) (fun _=>?_)
     refine ite_ok Z84 (fun _=>?_) (fun _=>?_)
     ·cases r with
      | nil=>exact hr.cons (by decide)
      | cons y r=>exact ite_ok Z84 (fun _=>hr.cons (by decide)) (fun _=>hr.cons (by decide))
     ·refine ite_ok Z84 (fun _=>hr) (fun _=>?_)
      cases r with
      | nil=>exact hr
      | cons y r=>exact rPlain_z _ _ _ _ _ hr
    ·refine ite_ok Z84 (fun _=>?_) (fun _=>?_)
     ·exact ite_ok Z84 (fun _=>hr.cons (by decide)) (fun _=>rPlain_z _ _ _ _ _ (hr.cons (by decide)))
     ·refine ite_ok Z84 (fun _=>?_) (fun _=>rPlain_z _ _ _ _ _ h)
      exact ite_ok Z84 (fun _=>hr) (fun _=>rPlain_z _ _ _ _ _ (hr.cons (by decide)))
theorem rAt_z (l:List UInt8):∀k:Nat,Z84 (rAt l k)
  | 0=>by intro y hy _;simp[rAt] at hy;rw[hy]
  | k+1=>rStep_z _ _ _ _ (rAt_z l k)
theorem rAt_split (l:List UInt8) (k:Nat):(rAt l k).1=XT l k++[(84,0)]:=by
  obtain⟨p,hp⟩:=bot_split (rAt_bot l k)
  have h0:p=0:=rAt_z l k (84,p) (by rw[hp];simp) rfl
  subst h0
  exact hp
theorem XT_len (l:List UInt8) (k:Nat):(rAt l k).1.length=(XT l k).length+1:=by rw[rAt_split];simp
theorem rAt_rev (l:List UInt8) (k:Nat):(rAt l k).1.reverse=(84,0)::FT l k:=by rw[rAt_split];simp[FT]
theorem XT_step (l:List UInt8) (k:Nat):∃m,pls (XT l (k+1))=(pls (XT l k)).drop m∨pls (XT l (k+1))=(k:Int)::(pls (XT l k)).drop m:=by
  obtain⟨m,h⟩:=rStep_q (rAt l k).1 (rAt l k).2 (l.getD k 0) k
  have h':pls (rAt l (k+1)).1=(pls (rAt l k).1).drop m∨pls (rAt l (k+1)).1=(k:Int)::(pls (rAt l k).1).drop m:=h
  rw[rAt_split l (k+1),rAt_split l k] at h'
  simp only[pls,List.map_append,List.map_cons,List.map_nil] at h' ⊢
  generalize (XT l (k+1)).map (·.2)=A at h' ⊢
  generalize (XT l k).map (·.2)=B at h' ⊢
  by_cases hm:m≤B.length
  ·rw[List.drop_append_of_le_length hm] at h'
   refine⟨m,h'.imp (fun e=>(List.append_left_inj _).1 e) (fun e=>?_)⟩
   rw[←List.cons_append] at e
   exact(List.append_left_inj _).1 e
  ·rw[List.drop_eq_nil_of_le (by simp;omega)] at h'
   refine⟨B.length,.inl ?_⟩
   rcases h' with e|e
   ·simp at e
   ·cases A with
    | nil=>simp
    | cons x A=>have:=congrArg List.length e;simp at this
theorem XT_fall (l:List UInt8):∀k:Nat,(pls (XT l k)).Pairwise (· > ·)∧∀p∈pls (XT l k),0≤p∧p<(k:Int)
  | 0=>⟨List.Pairwise.nil,by intro p hp;simp[XT,rAt,pls] at hp⟩
  | k+1=>by
    obtain⟨h1,h2⟩:=XT_fall l k
    obtain⟨m,h|h⟩:=XT_step l k
    ·rw[h]
     exact⟨h1.sublist (List.drop_sublist _ _),fun p hp=>by have:=h2 p (List.mem_of_mem_drop hp);omega⟩
    ·rw[h]
     refine⟨List.Pairwise.cons (fun p hp=>by have:=h2 p (List.mem_of_mem_drop hp);show (k:Int)>p;omega) (h1.sublist (List.drop_sublist _ _)),fun p hp=>?_⟩
     rcases List.mem_cons.1 hp with rfl|hp
     ·omega
     ·have:=h2 p (List.mem_of_mem_drop hp);omega
theorem FT_rise (l:List UInt8) (k:Nat):(pls (FT l k)).Pairwise (· < ·)∧∀p∈pls (FT l k),0≤p∧p<(k:Int):=by
  obtain⟨h1,h2⟩:=XT_fall l k
  have e:pls (FT l k)=(pls (XT l k)).reverse:=by simp[pls,FT]
  rw[e]
  exact⟨List.pairwise_reverse.2 h1,fun p hp=>h2 p (List.mem_reverse.1 hp)⟩
theorem FT_step (l:List UInt8) (k:Nat):∃j,j≤(FT l k).length∧(pls (FT l (k+1))=(pls (FT l k)).take j∨pls (FT l (k+1))=(pls (FT l k)).take j++[(k:Int)]):=by
  obtain⟨m,h⟩:=XT_step l k
  have e:∀k,pls (FT l k)=(pls (XT l k)).reverse:=by intro k;simp[pls,FT]
  refine⟨(FT l k).length-m,by omega,?_⟩
  rw[e,e]
  have hl:(FT l k).length=(pls (XT l k)).length:=by simp[FT,pls]
  rw[hl,←List.reverse_drop]
  rcases h with h|h
  ·left;rw[h]
  ·right;rw[h];simp
end Go.Proofs.YtlbfdbinaekjoaaGreatDoor
namespace Go.Proofs.YtlbfdbinaekjoaaGreatDoor
set_option linter.unusedVariables false
set_option linter.unusedSimpArgs false
set_option maxRecDepth 100000
structure Prt where
  mode:Int
  fr:Int
  to:Int
  up:Int
  op:Bool
def dP:Prt:=⟨0,0,0,0,false⟩
def cntM (m:Int):Int:=if m=3 then 1 else if m=11 then 9 else m
def cnt (c:UInt8):Int:=cntM (modeOf c)
abbrev frs (l:List Prt):List Int:=l.map (·.fr)
def idxP (l:List Prt) (p:Int):Nat:=(frs l).idxOf p
def findF (F:Stk) (p:Int):Option UInt8:=(F.find? (fun x=>x.2==p)).map (·.1)
def upd (F:Stk) (k1:Int) (q:Prt):Prt:=
  if q.op=true then (match findF F q.fr with
    | some c=>{q with mode:=cnt c}
    | none=>{q with to:=k1,op:=false})
  else q
def upI (F:Stk) (l:List Prt):Int:=match F.dropLast.getLast? with
  | none => -1
  | some y=>(idxP l y.2:Int)
def newP (F:Stk) (k:Int) (l:List Prt):List Prt:=match F.getLast? with
  | none=>[]
  | some y=>if y.2=k then [⟨cnt y.1,k,0,upI F l,true⟩] else []
def canon (l:List UInt8):Nat→List Prt
  | 0=>[]
  | k+1=>(canon l k).map (upd (FT l (k+1)) ((k:Int)+1))++newP (FT l (k+1)) k (canon l k)
theorem upd_fr (F:Stk) (k1:Int) (q:Prt):(upd F k1 q).fr=q.fr:=by
  unfold upd
  split
  ·split<;>rfl
  ·rfl
theorem frs_upd (F:Stk) (k1:Int) (l:List Prt):frs (l.map (upd F k1))=frs l:=by
  simp only[frs,List.map_map]
  exact List.map_congr_left fun q _=>upd_fr F k1 q
theorem findF_some {F:Stk} {p:Int} (h:p∈pls F):∃c,findF F p=some c∧(c,p)∈F:=by
  obtain⟨y,hy,he⟩:=List.mem_map.1 h
  cases hf:F.find? (fun x=>x.2==p) with
  | none=>have:=List.find?_eq_none.1 hf y hy;simp[he] at this
  | some z=>
    have h1:=List.find?_some hf
    have h2:=List.mem_of_find?_eq_some hf
    simp at h1
    obtain⟨c,q⟩:=z
    simp at h1
    subst h1
    exact⟨c,by unfold findF;rw[hf];rfl,h2⟩
theorem findF_none {F:Stk} {p:Int} (h:p∉pls F):findF F p=none:=by
  unfold findF
  rw[List.find?_eq_none.2]
  ·rfl
  ·intro y hy
   simp only[beq_iff_eq]
   intro e
   exact h (List.mem_map.2 ⟨y,hy,e⟩)
theorem newP_of {F:Stk} {k:Int} {l:List Prt} {c:UInt8} {G:Stk} (h:F=G++[(c,k)]):newP F k l=[⟨cnt c,k,0,upI F l,true⟩]:=by
  subst h
  simp[newP]
theorem newP_none {F:Stk} {k:Int} {l:List Prt} (h:∀p∈pls F,p≠k):newP F k l=[]:=by
  unfold newP
  cases hg:F.getLast? with
  | none=>rfl
  | some y=>
    have:y∈F:=List.mem_of_getLast? hg
    simp only
    rw[if_neg (h y.2 (List.mem_map.2 ⟨y,this,rfl⟩))]
theorem FT_split (l:List UInt8) (k:Nat):∃(j:Nat) (A B:Stk),FT l (k+1)=A++B∧j≤(FT l k).length∧pls A=(pls (FT l k)).take j∧(B=[]∨∃c,B=[(c,(k:Int))]):=by
  obtain⟨j,hj,h⟩:=FT_step l k
  refine⟨j,(FT l (k+1)).take j,(FT l (k+1)).drop j,(List.take_append_drop _ _).symm,hj,?_,?_⟩
  ·rw[pls,List.map_take]
   rcases h with h|h
   ·rw[show (FT l (k+1)).map (·.2)=_ from h,List.take_take,Nat.min_self]
   ·rw[show (FT l (k+1)).map (·.2)=_ from h,List.take_append_of_le_length (by simp[pls];omega),List.take_take,Nat.min_self]
  ·have e:pls ((FT l (k+1)).drop j)=(pls (FT l (k+1))).drop j:=by simp[pls,List.map_drop]
   rcases h with h|h
   ·left
    rw[h,List.drop_take] at e
    simpa [pls] using e
   ·right
    rw[h,List.drop_append,List.drop_take] at e
    simp only[List.length_take,pls,List.length_map,Nat.min_eq_left hj,Nat.sub_self,List.take_zero,List.nil_append,List.drop_zero] at e
    match hd:(FT l (k+1)).drop j,e with
    | [(c,p)],e=>simp at e;exact⟨c,by rw[e]⟩
structure CI (l:List UInt8) (k:Nat):Prop where
  rise:(frs (canon l k)).Pairwise (· < ·)
  bnd:∀p∈frs (canon l k),0≤p∧p<(k:Int)
  opn:∀q∈canon l k,(q.op=true↔q.fr∈pls (FT l k))
  sub:∀p∈pls (FT l k),p∈frs (canon l k)
theorem frs_newP (F:Stk) (k:Int) (l:List Prt):frs (newP F k l)=[]∨frs (newP F k l)=[k]:=by
  unfold newP
  split
  ·exact .inl rfl
  ·split
   ·exact .inr rfl
   ·exact .inl rfl
theorem frs_canon (l:List UInt8) (k:Nat):frs (canon l (k+1))=frs (canon l k)++frs (newP (FT l (k+1)) k (canon l k)):=by
  simp only[canon,frs,List.map_append]
  congr 1
  exact frs_upd _ _ _
theorem upd_op {F:Stk} {k1:Int} {q:Prt}:(upd F k1 q).op=true↔q.op=true∧q.fr∈pls F:=by
  unfold upd
  by_cases ho:q.op=true
  ·rw[if_pos ho]
   by_cases hm:q.fr∈pls F
   ·obtain⟨c,hc,_⟩:=findF_some hm
    rw[hc]
    simp[ho,hm]
   ·rw[findF_none hm]
    simp[hm]
  ·rw[if_neg ho]
   simp[ho]
theorem canon_ci (l:List UInt8):∀k,CI l k
  | 0=>⟨List.Pairwise.nil,by intro p hp;simp[canon,frs] at hp,by intro q hq;simp[canon] at hq,by intro p hp;simp[FT,XT,rAt,pls] at hp⟩
  | k+1=>by
    have ih:=canon_ci l k
    obtain⟨j,A,B,hF,hj,hA,hB⟩:=FT_split l k
    have hr:=(FT_rise l k)
    have hkP:(k:Int)∉pls (FT l k):=fun h=>by have:=hr.2 _ h;omega
    have hkC:(k:Int)∉frs (canon l k):=fun h=>by have:=ih.bnd _ h;omega
    have hAsub:∀p∈pls A,p∈pls (FT l k):=fun p hp=>by rw[hA] at hp;exact List.mem_of_mem_take hp
    refine⟨?_,?_,?_,?_⟩
    ·rw[frs_canon]
     rcases frs_newP (FT l (k+1)) k (canon l k) with h|h
     ·rw[h,List.append_nil];exact ih.rise
     ·rw[h,List.pairwise_append]
      exact⟨ih.rise,List.pairwise_singleton _ _,fun a ha b hb=>by simp at hb;subst hb;exact(ih.bnd a ha).2⟩
    ·intro p hp
     rw[frs_canon] at hp
     rcases List.mem_append.1 hp with hp|hp
     ·have:=ih.bnd p hp;omega
     ·rcases frs_newP (FT l (k+1)) k (canon l k) with h|h
      ·rw[h] at hp;cases hp
      ·rw[h] at hp;simp at hp;omega
    ·intro q hq
     simp only[canon] at hq
     rcases List.mem_append.1 hq with hq|hq
     ·obtain⟨q0,hq0,rfl⟩:=List.mem_map.1 hq
      rw[upd_op,upd_fr,ih.opn q0 hq0]
      constructor
      ·exact fun h=>h.2
      ·intro h
       refine⟨?_,h⟩
       rw[hF,pls,List.map_append] at h
       rcases List.mem_append.1 h with h|h
       ·exact hAsub _ h
       ·exfalso
        rcases hB with rfl|⟨c,rfl⟩
        ·cases h
        ·simp at h
         exact hkC (h▸List.mem_map.2 ⟨q0,hq0,rfl⟩)
     ·rcases hB with rfl|⟨c,rfl⟩
      ·rw[newP_none] at hq
       ·cases hq
       ·intro p hp e
        subst e
        rw[hF,List.append_nil] at hp
        exact hkP (hAsub _ hp)
      ·rw[newP_of hF] at hq
       simp at hq
       subst hq
       simp[hF,pls]
    ·intro p hp
     rw[frs_canon]
     rw[hF,pls,List.map_append] at hp
     rcases List.mem_append.1 hp with hp|hp
     ·exact List.mem_append_left _ (ih.sub p (hAsub p hp))
     ·rcases hB with rfl|⟨c,rfl⟩
      ·cases hp
      ·rw[newP_of hF]
       exact List.mem_append_right _ (by simpa [frs] using hp)
end Go.Proofs.YtlbfdbinaekjoaaGreatDoor
namespace Go.Proofs.YtlbfdbinaekjoaaGreatDoor
set_option linter.unusedVariables false
set_option linter.unusedSimpArgs false
set_option maxRecDepth 100000
def seePop (fs:List (Int×Int)) (a:Int):Nat→List Prt→List Nat→List Prt×List Nat
  | 0,l,h=>(l,h)
  | n+1,l,h=>
    if n+1≤fs.length∧(fs.getD n (0,0)).2=(l.getD (h.getD n 0) dP).fr then (l,h)
    else seePop fs a n (l.set (h.getD n 0) {l.getD (h.getD n 0) dP with to:=a+1,op:=false}) (h.take n)
def seePush:List (Int×Int)→Nat→List Prt→List Nat→List Prt×List Nat
  | [],_,l,h=>(l,h)
  | f::fs,i,l,h=>
    if i<h.length then seePush fs (i+1) (l.set (h.getD i 0) {l.getD (h.getD i 0) dP with mode:=cntM f.1}) h
    else seePush fs (i+1) (l++[⟨cntM f.1,f.2,0,if 0<i then ((h.getD (i-1) 0:Nat):Int) else -1,true⟩]) (h++[l.length])
def seeP (fs:List (Int×Int)) (a:Int) (l:List Prt) (h:List Nat):List Prt×List Nat:=
  let x:=seePop fs a h.length l h
  seePush fs 0 x.1 x.2
theorem idx_lt {l:List Prt} {p:Int} (h:p∈frs l):idxP l p<l.length:=by
  have:=List.idxOf_lt_length_of_mem h
  simpa [idxP,frs] using this
theorem idx_fr {l:List Prt} {p:Int} (h:p∈frs l):(l.getD (idxP l p) dP).fr=p:=by
  have hl:=idx_lt h
  have h1:(frs l)[idxP l p]'(by simpa [frs] using hl)=p:=List.getElem_idxOf (List.idxOf_lt_length_of_mem h)
  rw[List.getD_eq_getElem?_getD,List.getElem?_eq_getElem hl]
  simpa [frs] using h1
theorem rise_inj {l:List Prt} (hr:(frs l).Pairwise (· < ·)) {i j:Nat} (hi:i<l.length) (hj:j<l.length) (e:l[i].fr=l[j].fr):i=j:=by
  rcases Nat.lt_trichotomy i j with h|h|h
  ·have:=List.pairwise_iff_getElem.1 hr i j (by simpa [frs] using hi) (by simpa [frs] using hj) h
   simp[frs] at this
   omega
  ·exact h
  ·have:=List.pairwise_iff_getElem.1 hr j i (by simpa [frs] using hj) (by simpa [frs] using hi) h
   simp[frs] at this
   omega
theorem set_map {l:List Prt} (hr:(frs l).Pairwise (· < ·)) {p:Int} (hp:p∈frs l) (f:Prt→Prt):l.set (idxP l p) (f (l.getD (idxP l p) dP))=l.map fun q=>if q.fr=p then f q else q:=by
  have hl:=idx_lt hp
  have hf:=idx_fr hp
  apply List.ext_getElem (by simp)
  intro i h1 h2
  have hi:i<l.length:=by simpa using h1
  rw[List.getElem_map]
  by_cases e:i=idxP l p
  ·subst e
   rw[List.getElem_set_self,List.getD_eq_getElem?_getD,List.getElem?_eq_getElem hl] at *
   simp only[Option.getD_some] at hf ⊢
   rw[if_pos hf]
  ·rw[List.getElem_set_ne (Ne.symm e)]
   rw[if_neg]
   intro e2
   apply e
   apply rise_inj hr hi hl
   rw[e2]
   rw[List.getD_eq_getElem?_getD,List.getElem?_eq_getElem hl] at hf
   exact hf.symm
def clo1 (a:Int) (q:Prt):Prt:={q with to:=a+1,op:=false}
theorem frs_if (P:Prt→Prop) [DecidablePred P] (f:Prt→Prt) (hf:∀q,(f q).fr=q.fr) (l:List Prt):frs (l.map fun q=>if P q then f q else q)=frs l:=by
  simp only[frs,List.map_map]
  refine List.map_congr_left fun q _=>?_
  simp only[Function.comp]
  split
  ·exact hf q
  ·rfl
theorem seePop_eq (fs:List (Int×Int)) (a:Int) (P:List Int) (hP:P.Nodup) (j:Nat) (hj:j≤P.length) (hfs:fs.map (·.2)=P.take j∨∃k,k∉P∧fs.map (·.2)=P.take j++[k]) :
    ∀(n:Nat) (l:List Prt),j≤n→n≤P.length→(frs l).Pairwise (· < ·)→(∀p∈P,p∈frs l) →
     seePop fs a n l ((P.map (idxP l)).take n)=(l.map (fun q=>if q.fr∈(P.take n).drop j then clo1 a q else q),(P.map (idxP l)).take j):=by
  have hfl:fs.length=j∨(fs.length=j+1∧∃k,k∉P∧fs.map (·.2)=P.take j++[k]):=by
    rcases hfs with h|⟨k,hk,h⟩
    ·left;have:=congrArg List.length h;simp at this;omega
    ·right;refine⟨?_,k,hk,h⟩;have:=congrArg List.length h;simp at this;omega
  have hat:∀i,i<j→(fs.getD i (0,0)).2=P.getD i 0:=by
    intro i hi
    have h1:(fs.map (·.2))[i]? = P[i]? := by
      rcases hfs with h|⟨k,hk,h⟩
      ·rw[h,List.getElem?_take,if_pos hi]
      ·rw[h,List.getElem?_append_left (by simp;omega),List.getElem?_take,if_pos hi]
    rw[List.getElem?_map] at h1
    rw[List.getD_eq_getElem?_getD,List.getD_eq_getElem?_getD,←h1]
    cases h2:fs[i]? with
    | none=>
      exfalso
      rw[List.getElem?_eq_none_iff] at h2
      omega
    | some x=>rfl
  intro n
  induction n with
  | zero=>
    intro l h0 _ hr hs
    obtain rfl:j=0:=by omega
    simp[seePop]
  | succ n ih=>
    intro l h0 h1 hr hs
    have hn:n<P.length:=by omega
    have hPn:P[n]∈frs l:=hs _ (List.getElem_mem hn)
    have hg:((P.map (idxP l)).take (n+1)).getD n 0=idxP l P[n]:=by
      rw[List.getD_eq_getElem?_getD,List.getElem?_take,if_pos (by omega),List.getElem?_map,List.getElem?_eq_getElem hn];rfl
    unfold seePop
    rw[hg,idx_fr hPn]
    by_cases hjn:j=n+1
    ·have hc:=hat n (by omega)
     rw[List.getD_eq_getElem?_getD (l:=P),List.getElem?_eq_getElem hn] at hc
     rw[if_pos ⟨by rcases hfl with h|h<;>omega,hc⟩]
     rw[show (P.take (n+1)).drop j=[] by rw[hjn];simp]
     simp[hjn]
    ·have hne:¬(n+1≤fs.length∧(fs.getD n (0,0)).2=P[n]):=by
       rintro ⟨h2,h3⟩
       rcases hfl with h|⟨h,k,hk,hfk⟩
       ·omega
       ·obtain rfl:n=j:=by omega
        have h4:(fs.map (·.2))[n]? = some k:=by
          rw[hfk,List.getElem?_append_right (by simp;omega)]
          simp[Nat.min_eq_left hj]
        rw[List.getElem?_map] at h4
        rw[List.getD_eq_getElem?_getD] at h3
        cases h5:fs[n]? with
        | none=>rw[h5] at h4;cases h4
        | some x=>
          rw[h5] at h3 h4
          simp at h3 h4
          exact hk (by rw[←h4,h3];exact List.getElem_mem hn)
     rw[if_neg hne]
     have hset:=set_map hr hPn (clo1 a)
     unfold clo1 at hset
     rw[hset]
     have hfr:frs (l.map fun q=>if q.fr=P[n] then ({q with to:=a+1,op:=false}:Prt) else q)=frs l:=frs_if (fun q=>q.fr=P[n]) (clo1 a) (fun _=>rfl) l
     have hix:∀p,idxP (l.map fun q=>if q.fr=P[n] then ({q with to:=a+1,op:=false}:Prt) else q) p=idxP l p:=fun p=>by unfold idxP;rw[hfr]
     have hih:=ih (l.map fun q=>if q.fr=P[n] then ({q with to:=a+1,op:=false}:Prt) else q) (by omega) (by omega) (by rw[hfr];exact hr) (by rw[hfr];exact hs)
     have hmap:P.map (idxP (l.map fun q=>if q.fr=P[n] then ({q with to:=a+1,op:=false}:Prt) else q))=P.map (idxP l):=List.map_congr_left fun p _=>hix p
     rw[hmap] at hih
     rw[List.take_take,Nat.min_eq_left (by omega),hih]
     congr 1
     rw[List.map_map]
     refine List.map_congr_left fun q _=>?_
     have hsp:(P.take (n+1)).drop j=(P.take n).drop j++[P[n]]:=by
       rw[List.take_succ_eq_append_getElem hn,List.drop_append_of_le_length (by simp;omega)]
     have hnd:P[n]∉(P.take n).drop j:=by
       intro hm
       have hm':=List.mem_of_mem_drop hm
       rw[List.nodup_iff_pairwise_ne] at hP
       obtain⟨i,hi,e⟩:=List.mem_take_iff_getElem.1 hm'
       have:=List.pairwise_iff_getElem.1 hP i n (by omega) hn (by omega)
       exact this e
     rw[hsp]
     simp only[Function.comp]
     by_cases e:q.fr=P[n]
     ·rw[if_pos e,if_neg (show ¬({q with to:=a+1,op:=false}:Prt).fr∈(P.take n).drop j by show ¬q.fr∈_;rw[e];exact hnd),if_pos (show q.fr∈(P.take n).drop j++[P[n]] by simp[e])]
      rfl
     ·rw[if_neg e]
      by_cases e2:q.fr∈(P.take n).drop j
      ·rw[if_pos e2,if_pos (by simp[e2])]
      ·rw[if_neg e2,if_neg (by simp[e2,e])]
def appA (A:List (Int×Int)) (q:Prt):Prt:=match A.find? (fun x=>x.2==q.fr) with
  | some x=>{q with mode:=cntM x.1}
  | none=>q
theorem seePush_eq (B:List (Int×Int)):∀(A:List (Int×Int)) (i:Nat) (l:List Prt) (h:List Nat),(frs l).Pairwise (· < ·)→(∀x∈A,x.2∈frs l)→(A.map (·.2)).Nodup →
    (∀t x,A[t]? = some x→h[i+t]? = some (idxP l x.2))→seePush (A++B) i l h=seePush B (i+A.length) (l.map (appA A)) h
  | [],i,l,h,_,_,_,_=>by
    have:l.map (appA [])=l:=by
      rw[show (appA [])=id from funext fun q=>rfl,List.map_id]
    rw[this];rfl
  | f::A,i,l,h,hr,hm,hn,hh=>by
    have h0:=hh 0 f rfl
    rw[Nat.add_zero] at h0
    have hil:i<h.length:=(List.getElem?_eq_some_iff.1 h0).1
    have hgi:h.getD i 0=idxP l f.2:=by rw[List.getD_eq_getElem?_getD,h0];rfl
    have hf:=hm f (by simp)
    rw[List.cons_append]
    have hu:seePush (f::(A++B)) i l h=seePush (A++B) (i+1) (l.set (h.getD i 0) {l.getD (h.getD i 0) dP with mode:=cntM f.1}) h:=by rw[seePush,if_pos hil]
    rw[hu,hgi]
    have hset:=set_map hr hf (fun q=>{q with mode:=cntM f.1})
    rw[hset]
    have hfr:frs (l.map fun q=>if q.fr=f.2 then ({q with mode:=cntM f.1}:Prt) else q)=frs l:=frs_if (fun q=>q.fr=f.2) (fun q=>{q with mode:=cntM f.1}) (fun _=>rfl) l
    rw[List.map_cons,List.nodup_cons] at hn
    rw[seePush_eq B A (i+1) _ h (by rw[hfr];exact hr) (fun x hx=>by rw[hfr];exact hm x (by simp[hx])) hn.2 (fun t x hx=>by
      unfold idxP
      rw[hfr]
      have:=hh (t+1) x (by simpa using hx)
      rw[show i+(t+1)=i+1+t by omega] at this
      exact this)]
    rw[List.map_map,List.length_cons,show i+1+A.length=i+(A.length+1) by omega]
    congr 1
    refine List.map_congr_left fun q _=>?_
    simp only[Function.comp]
    by_cases e:q.fr=f.2
    ·rw[if_pos e]
     have e1:A.find? (fun x=>x.2==q.fr)=none:=by
       rw[List.find?_eq_none]
       intro x hx
       simp only[beq_iff_eq]
       intro e2
       exact hn.1 (List.mem_map.2 ⟨x,hx,by rw[e2,e]⟩)
     unfold appA
     simp only[e1]
     rw[List.find?_cons_of_pos (by simp[e])]
    ·rw[if_neg e]
     unfold appA
     rw[List.find?_cons_of_neg (by simp;exact fun h=>e h.symm)]
def hereP (l:List UInt8) (k:Nat):List Nat:=(pls (FT l k)).map (idxP (canon l k))
def fsP (F:Stk):List (Int×Int):=F.map fun x=>(modeOf x.1,x.2)
theorem fsP_snd (F:Stk):(fsP F).map (·.2)=pls F:=by simp[fsP,pls]
theorem find_fsP (F:Stk) (p:Int):(fsP F).find? (fun x=>x.2==p)=(F.find? (fun x=>x.2==p)).map fun x=>(modeOf x.1,x.2):=by
  unfold fsP;rw[List.find?_map];rfl
theorem see_canon (l:List UInt8) (k:Nat):seeP (fsP (FT l (k+1))) k (canon l k) (hereP l k)=(canon l (k+1),hereP l (k+1)):=by
  have ci:=canon_ci l k
  obtain⟨j,A,B,hF,hj,hA,hB⟩:=FT_split l k
  have hr:=FT_rise l k
  have hnd:(pls (FT l k)).Nodup:=by rw[List.nodup_iff_pairwise_ne];exact hr.1.imp (fun h=>by omega)
  have hkP:(k:Int)∉pls (FT l k):=fun h=>by have:=hr.2 _ h;omega
  have hkC:(k:Int)∉frs (canon l k):=fun h=>by have:=ci.bnd _ h;omega
  have hjl:j≤(pls (FT l k)).length:=by simpa [pls] using hj
  have hlen:(hereP l k).length=(pls (FT l k)).length:=by simp[hereP]
  have hpop:=seePop_eq (fsP (FT l (k+1))) k (pls (FT l k)) hnd j hjl (by
    rw[fsP_snd,hF,pls,List.map_append]
    rw[show A.map (·.2)=_ from hA]
    rcases hB with rfl|⟨c,rfl⟩
    ·left;simp
    ·right;exact⟨k,hkP,rfl⟩) (pls (FT l k)).length (canon l k) hjl (Nat.le_refl _) ci.rise ci.sub
  rw[List.take_of_length_le (Nat.le_refl _),List.take_of_length_le (by simp)] at hpop
  unfold seeP
  rw[hlen]
  show (let x:=seePop _ _ _ _ ((pls (FT l k)).map (idxP (canon l k)));seePush _ 0 x.1 x.2)=_
  rw[hpop]
  simp only
  have hfsA:fsP (FT l (k+1))=fsP A++fsP B:=by rw[hF];simp[fsP]
  have hAmem:∀p∈pls A,p∈pls (FT l k):=fun p hp=>by rw[hA] at hp;exact List.mem_of_mem_take hp
  have hfr1:frs ((canon l k).map fun q=>if q.fr∈(pls (FT l k)).drop j then clo1 k q else q)=frs (canon l k):=frs_if (fun q=>q.fr∈(pls (FT l k)).drop j) (clo1 k) (fun _=>rfl) _
  have hAl:A.length=j:=by have:=congrArg List.length hA;simp[pls] at this;simp[pls] at hjl;omega
  rw[hfsA,seePush_eq (fsP B) (fsP A) 0 _ _ (by rw[hfr1];exact ci.rise) (fun x hx=>by
    rw[hfr1]
    have:x.2∈pls A:=by rw[←fsP_snd];exact List.mem_map.2 ⟨x,hx,rfl⟩
    exact ci.sub _ (hAmem _ this)) (by rw[fsP_snd,hA];exact hnd.sublist (List.take_sublist _ _)) (fun t x hx=>by
    unfold idxP
    rw[hfr1,Nat.zero_add]
    have h1:(pls A)[t]? = some x.2:=by rw[←fsP_snd,List.getElem?_map,hx];rfl
    have ht:t<j:=by have:=(List.getElem?_eq_some_iff.1 h1).1;rw[←hAl];simpa [pls] using this
    rw[hA,List.getElem?_take,if_pos ht] at h1
    rw[List.getElem?_take,if_pos ht,List.getElem?_map,h1]
    rfl)]
  have hlist:(((canon l k).map fun q=>if q.fr∈(pls (FT l k)).drop j then clo1 k q else q).map (appA (fsP A)))=(canon l k).map (upd (FT l (k+1)) ((k:Int)+1)):=by
    rw[List.map_map]
    refine List.map_congr_left fun q hq=>?_
    have hqf:q.fr∈frs (canon l k):=List.mem_map.2 ⟨q,hq,rfl⟩
    have hqk:q.fr≠(k:Int):=fun e=>hkC (e▸hqf)
    simp only[Function.comp]
    have htd:q.fr∈pls (FT l k)↔q.fr∈(pls (FT l k)).take j∨q.fr∈(pls (FT l k)).drop j:=by
      rw[←List.mem_append,List.take_append_drop]
    have hFmem:q.fr∈pls (FT l (k+1))↔q.fr∈pls A:=by
      rw[hF,pls,List.map_append,List.mem_append]
      constructor
      ·rintro (h|h)
       ·exact h
       ·rcases hB with rfl|⟨c,rfl⟩
        ·cases h
        ·simp at h;exact absurd h hqk
      ·exact .inl
    have hopn:=ci.opn q hq
    by_cases hd:q.fr∈(pls (FT l k)).drop j
    ·have hnt:q.fr∉pls A:=by
       rw[hA]
       intro ht
       rw[←List.take_append_drop j (pls (FT l k))] at hnd
       exact(List.nodup_append.1 hnd).2.2 _ ht _ hd rfl
     rw[if_pos hd]
     have ho:q.op=true:=hopn.2 (htd.2 (.inr hd))
     have e1:(fsP A).find? (fun x=>x.2==(clo1 (k:Int) q).fr)=none:=by
       rw[find_fsP,Option.map_eq_none_iff,List.find?_eq_none]
       intro y hy
       simp only[beq_iff_eq]
       intro e
       exact hnt (List.mem_map.2 ⟨y,hy,e⟩)
     unfold appA upd
     rw[if_pos ho,findF_none (fun h=>hnt (hFmem.1 h))]
     simp only[e1]
     rfl
    ·rw[if_neg hd]
     by_cases ht:q.fr∈pls A
     ·have ho:q.op=true:=hopn.2 (hAmem _ ht)
      obtain⟨y,hy,hye⟩:=List.mem_map.1 ht
      have hsome:(A.find? (fun x=>x.2==q.fr)).isSome=true:=by
        rw[List.find?_isSome]
        exact⟨y,hy,by simp[hye]⟩
      obtain⟨z,hz⟩:=Option.isSome_iff_exists.1 hsome
      have e1:(fsP A).find? (fun x=>x.2==q.fr)=some (modeOf z.1,z.2):=by rw[find_fsP,hz];rfl
      have e2:findF (FT l (k+1)) q.fr=some z.1:=by unfold findF;rw[hF,List.find?_append,hz];rfl
      unfold appA upd
      rw[if_pos ho]
      simp only[e1,e2]
      rfl
     ·have hno:¬q.op=true:=fun h=>by
        rcases htd.1 (hopn.1 h) with h1|h1
        ·rw[←hA] at h1;exact ht h1
        ·exact hd h1
      have e1:(fsP A).find? (fun x=>x.2==q.fr)=none:=by
        rw[find_fsP,Option.map_eq_none_iff,List.find?_eq_none]
        intro y hy
        simp only[beq_iff_eq]
        intro e
        exact ht (List.mem_map.2 ⟨y,hy,e⟩)
      unfold appA upd
      rw[if_neg hno]
      simp only[e1]
  rw[hlist]
  have hhA:((pls (FT l k)).map (idxP (canon l k))).take j=(pls A).map (idxP (canon l k)):=by rw[hA,List.map_take]
  rw[hhA]
  have hixm:∀m:List Prt,frs m=frs (canon l k)→∀p,idxP m p=idxP (canon l k) p:=fun m hm p=>by unfold idxP;rw[hm]
  have hfu:frs ((canon l k).map (upd (FT l (k+1)) ((k:Int)+1)))=frs (canon l k):=frs_upd _ _ _
  have hfsl:(fsP A).length=j:=by simp[fsP,hAl]
  rw[Nat.zero_add,hfsl]
  have hold:∀p∈pls A,idxP (canon l (k+1)) p=idxP (canon l k) p:=by
    intro p hp
    unfold idxP
    rw[frs_canon,List.idxOf_append,if_pos (ci.sub p (hAmem p hp))]
  rcases hB with rfl|⟨c,rfl⟩
  ·have hnew:newP (FT l (k+1)) k (canon l k)=[]:=newP_none (by
     intro p hp e
     subst e
     rw[hF,List.append_nil] at hp
     exact hkP (hAmem _ hp))
   show seePush [] _ _ _=_
   rw[show canon l (k+1)=(canon l k).map (upd (FT l (k+1)) ((k:Int)+1))++newP (FT l (k+1)) k (canon l k) from rfl,hnew,List.append_nil]
   unfold seePush hereP
   rw[Prod.mk.injEq]
   refine⟨rfl,?_⟩
   rw[hF,List.append_nil]
   exact(List.map_congr_left fun p hp=>hold p hp).symm
  ·have hnew:=newP_of (k:=(k:Int)) (l:=canon l k) hF
   show seePush [(modeOf c,(k:Int))] _ _ _=_
   unfold seePush
   have hnl:¬j<((pls A).map (idxP (canon l k))).length:=by simp[pls,hAl]
   rw[if_neg hnl]
   unfold seePush
   rw[show canon l (k+1)=(canon l k).map (upd (FT l (k+1)) ((k:Int)+1))++newP (FT l (k+1)) k (canon l k) from rfl,hnew]
   rw[Prod.mk.injEq]
   constructor
   ·congr 1
    simp only[List.cons.injEq,and_true]
    congr 1
    unfold upI
    rw[hF,List.dropLast_concat]
    rcases Nat.eq_zero_or_pos j with h0|h0
    ·have:A=[]:=List.eq_nil_of_length_eq_zero (by omega)
     subst this
     simp[h0]
    ·rw[if_pos h0]
     obtain⟨G,y,rfl⟩:∃G y,A=G++[y]:=by
       rcases List.eq_nil_or_concat A with h|⟨G,y,h⟩
       ·subst h;simp at hAl;omega
       ·exact⟨G,y,by simpa using h⟩
     simp at hAl
     simp only[List.getLast?_append,List.getLast?_singleton,Option.some_or]
     rw[List.getD_eq_getElem?_getD,List.getElem?_map]
     have:(pls (G++[y]))[j-1]? = some y.2:=by
       simp only[pls,List.map_append,List.map_cons,List.map_nil]
       rw[List.getElem?_append_right (by simp;omega)]
       simp[show j-1-G.length=0 by omega]
     rw[this]
     rfl
   ·have hP1:pls (FT l (k+1))=pls A++[(k:Int)]:=by rw[hF];simp[pls]
    have hC:frs (canon l (k+1))=frs (canon l k)++[(k:Int)]:=by rw[frs_canon,hnew];rfl
    unfold hereP
    rw[hP1,List.map_append,List.map_cons,List.map_nil]
    congr 1
    ·exact(List.map_congr_left fun p hp=>(hold p hp).symm)
    ·rw[List.length_map]
     unfold idxP
     rw[hC,List.idxOf_append,if_neg hkC]
     simp[frs]
end Go.Proofs.YtlbfdbinaekjoaaGreatDoor
namespace Go.Proofs.YtlbfdbinaekjoaaGreatDoor
set_option linter.unusedVariables false
set_option linter.unusedSimpArgs false
set_option maxRecDepth 100000
def letB (c:UInt8):Bool:=decide (clsOf c=5)
def digB (c:UInt8):Bool:=decide (clsOf c=6)
def nameB (c:UInt8):Bool:=letB c||digB c
def nameLen (l:List UInt8):Nat:=match l with
  | []=>0
  | c::_=>if letB c=true then (l.takeWhile nameB).length else 0
def spcB (c:UInt8):Bool:=[64,42,35,63,45,36,33].contains c
def paramLen (l:List UInt8):Nat:=if 0<nameLen l then nameLen l else match l with
  | []=>0
  | c::_=>if spcB c=true∨digB c=true then 1 else 0
def parL (l:List UInt8) (i:Nat):Nat:=paramLen (l.drop i)
def fixTo (n:Int) (q:Prt):Prt:=if q.op=true then {q with to:=n} else q
def fin1 (l:List UInt8) (q:Prt):Prt:=if q.mode=12 then {q with to:=q.fr+1+(parL l (q.fr+1).toNat:Int),op:=false} else q
def finP (l:List UInt8) (q:Prt):Prt:=fin1 l (fixTo l.length q)
def partsL (l:List UInt8):List Prt:=(canon l l.length).map (finP l)
theorem fixTo_fr (n:Int) (q:Prt):(fixTo n q).fr=q.fr:=by unfold fixTo;split<;>rfl
theorem fin1_fr (l:List UInt8) (q:Prt):(fin1 l q).fr=q.fr:=by unfold fin1;split<;>rfl
theorem finP_fr (l:List UInt8) (q:Prt):(finP l q).fr=q.fr:=by unfold finP;rw[fin1_fr,fixTo_fr]
def atR (F:Stk) (p:Int):Nat:=if p∈pls F then (pls F).idxOf p+1 else 0
def scanR (F:Nat→Stk) (fr:Int) (n:Nat):Nat→Nat→Prt→Prt
  | 0,_,q=>q
  | m+1,k,q=>if atR (F k) fr=0 then {q with to:=k,op:=false} else scanR F fr n m (k+1) {q with mode:=cnt ((F k).getD (n-1) (0,0)).1}
def upR (n:Nat) (p:Int):List Prt→Nat→Int→Int
  | [],_,u=>u
  | q::l,k,u=>upR n p l (k+1) (if 1<n∧q.fr=p then (k:Int) else u)
def partR (l:List UInt8) (f:Nat) (out:List Prt):Prt:=
  fin1 l (scanR (FT l) f (atR (FT l (f+1)) f) (l.length-f) (f+1) ⟨0,f,l.length,upR (atR (FT l (f+1)) f) ((pls (FT l (f+1))).getD (atR (FT l (f+1)) f-2) 0) out 0 (-1),true⟩)
def outR (l:List UInt8):Nat→List Prt
  | 0=>[]
  | f+1=>outR l f++(if atR (FT l (f+1)) f=0 then [] else [partR l f (outR l f)])
def evol (l:List UInt8):Nat→Nat→Prt→Prt
  | 0,_,q=>q
  | m+1,k,q=>evol l m (k+1) (upd (FT l k) k q)
theorem evol_succ (l:List UInt8):∀(m a:Nat) (q:Prt),evol l (m+1) a q=upd (FT l (a+m)) ((a+m:Nat):Int) (evol l m a q)
  | 0,a,q=>rfl
  | m+1,a,q=>by
    show evol l (m+1) (a+1) _=_
    rw[evol_succ l m (a+1)]
    rw[show a+1+m=a+(m+1) by omega]
    rfl
theorem evol_fr (l:List UInt8):∀(m a:Nat) (q:Prt),(evol l m a q).fr=q.fr
  | 0,_,_=>rfl
  | m+1,a,q=>by show (evol l m (a+1) _).fr=_;rw[evol_fr l m,upd_fr]
theorem evol_shut (l:List UInt8):∀(m a:Nat) (q:Prt),q.op=false→evol l m a q=q
  | 0,_,_,_=>rfl
  | m+1,a,q,h=>by
    show evol l m (a+1) _=_
    have:upd (FT l a) a q=q:=by unfold upd;rw[if_neg (by rw[h];simp)]
    rw[this,evol_shut l m (a+1) q h]
theorem flatMap_congr2 {α β:Type} {l:List α} {f g:α→List β} (h:∀x∈l,f x=g x):l.flatMap f=l.flatMap g:=by
  rw[List.flatMap_def,List.flatMap_def,List.map_congr_left h]
theorem canon_evol (l:List UInt8):∀k,canon l k=(List.range k).flatMap fun f=>(newP (FT l (f+1)) f (canon l f)).map (evol l (k-(f+1)) (f+2))
  | 0=>rfl
  | k+1=>by
    rw[List.range_succ,List.flatMap_append]
    show (canon l k).map _++_=_
    congr 1
    ·conv=>lhs;rw[canon_evol l k]
     rw[List.map_flatMap]
     refine flatMap_congr2 fun f hf=>?_
     have hfk:=List.mem_range.1 hf
     rw[List.map_map]
     refine List.map_congr_left fun q _=>?_
     simp only[Function.comp]
     rw[show k+1-(f+1)=(k-(f+1))+1 by omega,evol_succ,show f+2+(k-(f+1))=k+1 by omega]
     rfl
    ·simp only[List.flatMap_cons,List.flatMap_nil,List.append_nil]
     rw[Nat.sub_self]
     show _=List.map (fun q=>q) _
     rw[List.map_id']
theorem FT_nodup (l:List UInt8) (k:Nat):(pls (FT l k)).Nodup:=by rw[List.nodup_iff_pairwise_ne];exact(FT_rise l k).1.imp (fun h=>by omega)
theorem nodup_idx {P:List Int} (h:P.Nodup) {i j:Nat} {p:Int} (hi:P[i]? = some p) (hj:P[j]? = some p):i=j:=by
  obtain⟨h1,h2⟩:=List.getElem?_eq_some_iff.1 hi
  obtain⟨h3,h4⟩:=List.getElem?_eq_some_iff.1 hj
  rw[List.nodup_iff_pairwise_ne] at h
  rcases Nat.lt_trichotomy i j with e|e|e
  ·exact absurd (h2.trans h4.symm) (List.pairwise_iff_getElem.1 h i j h1 h3 e)
  ·exact e
  ·exact absurd (h4.trans h2.symm) (List.pairwise_iff_getElem.1 h j i h3 h1 e)
theorem idx_const (l:List UInt8) (f n:Nat) (h0:(pls (FT l (f+1)))[n]? = some (f:Int)):∀k,f+1≤k→(f:Int)∈pls (FT l k)→(pls (FT l k))[n]? = some (f:Int):=by
  intro k hk
  induction k with
  | zero=>omega
  | succ k ih=>
    intro hm
    by_cases e:k=f
    ·subst e;exact h0
    ·obtain⟨j,A,B,hF,hj,hA,hB⟩:=FT_split l k
     have hmA:(f:Int)∈pls A:=by
       rw[hF,pls,List.map_append] at hm
       rcases List.mem_append.1 hm with h|h
       ·exact h
       ·rcases hB with rfl|⟨c,rfl⟩
        ·cases h
        ·simp at h;omega
     have hmt:=hmA
     rw[hA] at hmt
     have ih':=ih (by omega) (List.mem_of_mem_take hmt)
     obtain⟨i,hi,hie⟩:=List.mem_take_iff_getElem.1 hmt
     have hij:i=n:=nodup_idx (FT_nodup l k) (List.getElem?_eq_some_iff.2 ⟨by omega,hie⟩) ih'
     rw[hF,pls,List.map_append,List.getElem?_append_left (by
       have:=congrArg List.length hA
       simp[pls] at this ⊢
       simp[pls] at hi
       omega)]
     rw[show A.map (·.2)=pls A from rfl,hA,List.getElem?_take,if_pos (by omega)]
     exact ih'
theorem findF_at {F:Stk} (h:(pls F).Nodup) {i:Nat} {y:UInt8×Int} (hi:F[i]? = some y):findF F y.2=some y.1:=by
  have hm:y.2∈pls F:=List.mem_map.2 ⟨y,List.mem_of_getElem? hi,rfl⟩
  obtain⟨c,hc,hcm⟩:=findF_some hm
  obtain⟨j,hj⟩:=List.mem_iff_getElem?.1 hcm
  have e1:(pls F)[i]? = some y.2:=by rw[List.getElem?_map,hi];rfl
  have e2:(pls F)[j]? = some y.2:=by rw[List.getElem?_map,hj];rfl
  have:=nodup_idx h e1 e2
  subst this
  rw[hi] at hj
  injection hj with hj
  rw[hc,hj]
theorem atR_zero {F:Stk} {p:Int}:atR F p=0↔p∉pls F:=by unfold atR;split<;>simp_all
theorem atR_some {F:Stk} {p:Int} (h:p∈pls F):(pls F)[atR F p-1]? = some p∧1≤atR F p:=by
  unfold atR
  rw[if_pos h]
  refine⟨?_,by omega⟩
  rw[Nat.add_sub_cancel,List.getElem?_eq_getElem (List.idxOf_lt_length_of_mem h)]
  exact congrArg some (List.getElem_idxOf (List.idxOf_lt_length_of_mem h))
theorem scan_evol (l:List UInt8) (f n:Nat) (hn:∀k,f+1≤k→(f:Int)∈pls (FT l k)→(pls (FT l k))[n-1]? = some (f:Int)):∀(m k:Nat) (q:Prt),q.op=true→q.fr=f→f+1≤k →
    scanR (FT l) f n m k {q with to:=l.length}=fixTo l.length (evol l m k q)
  | 0,k,q,ho,hf,hk=>by unfold scanR evol fixTo;rw[if_pos ho]
  | m+1,k,q,ho,hf,hk=>by
    unfold scanR
    by_cases hm:(f:Int)∈pls (FT l k)
    ·rw[if_neg (fun h=>atR_zero.1 h hm)]
     have h1:=hn k hk hm
     rw[List.getElem?_map] at h1
     cases hy:(FT l k)[n-1]? with
     | none=>rw[hy] at h1;cases h1
     | some y=>
       rw[hy] at h1
       simp at h1
       have h2:=findF_at (FT_nodup l k) hy
       rw[h1] at h2
       have hu:upd (FT l k) k q={q with mode:=cnt y.1}:=by unfold upd;rw[if_pos ho,hf,h2]
       have hg:((FT l k).getD (n-1) (0,0)).1=y.1:=by rw[List.getD_eq_getElem?_getD,hy];rfl
       rw[hg]
       show scanR (FT l) f n m (k+1) {({q with mode:=cnt y.1}:Prt) with to:=l.length}=fixTo l.length (evol l m (k+1) (upd (FT l k) k q))
       rw[hu]
       exact scan_evol l f n hn m (k+1) {q with mode:=cnt y.1} ho hf (by omega)
    ·rw[if_pos (atR_zero.2 hm)]
     have hu:upd (FT l k) k q={q with to:=k,op:=false}:=by unfold upd;rw[if_pos ho,hf,findF_none hm]
     show _=fixTo l.length (evol l m (k+1) (upd (FT l k) k q))
     rw[hu,evol_shut _ _ _ _ rfl]
     rfl
theorem upR_not (n:Nat) (p:Int):∀(l:List Prt) (k:Nat) (u:Int),(1<n→p∉frs l)→upR n p l k u=u
  | [],_,_,_=>rfl
  | q::l,k,u,h=>by
    unfold upR
    rw[if_neg (fun hh=>h hh.1 (by simp[frs,hh.2]))]
    exact upR_not n p l (k+1) u (fun hn hm=>h hn (by simp only[frs,List.map_cons,List.mem_cons];exact .inr hm))
theorem upR_idx (n:Nat) (p:Int) (hn:1<n):∀(l:List Prt) (k:Nat) (u:Int),(frs l).Nodup→p∈frs l→upR n p l k u=((k+idxP l p:Nat):Int)
  | [],_,_,_,h=>by simp[frs] at h
  | q::l,k,u,hd,h=>by
    unfold upR
    simp only[frs,List.map_cons,List.nodup_cons] at hd
    by_cases e:q.fr=p
    ·rw[if_pos ⟨hn,e⟩,upR_not n p l (k+1) k (fun _ hm=>hd.1 (by rw[e];exact hm))]
     simp[idxP,frs,List.idxOf_cons,e]
    ·rw[if_neg (fun hh=>e hh.2)]
     have hm:p∈frs l:=by
       simp only[frs,List.map_cons,List.mem_cons] at h
       rcases h with h|h
       ·exact absurd h.symm e
       ·exact h
     rw[upR_idx n p hn l (k+1) u hd.2 hm]
     have:idxP (q::l) p=idxP l p+1:=by
       simp only[idxP,frs,List.map_cons,List.idxOf_cons]
       have:(q.fr==p)=false:=by simpa using e
       rw[this];rfl
     rw[this]
     congr 1
     omega
theorem outR_canon (l:List UInt8):∀f,f≤l.length→outR l f=(List.range f).flatMap (fun f=>(newP (FT l (f+1)) f (canon l f)).map fun q=>finP l (evol l (l.length-(f+1)) (f+2) q))∧frs (outR l f)=frs (canon l f)
  | 0,_=>⟨rfl,rfl⟩
  | f+1,hf=>by
    obtain⟨ih,ihf⟩:=outR_canon l f (by omega)
    have ci:=canon_ci l f
    obtain⟨j,A,B,hF,hj,hA,hB⟩:=FT_split l f
    have hkP:(f:Int)∉pls (FT l f):=fun h=>by have:=(FT_rise l f).2 _ h;omega
    have hAmem:∀p∈pls A,p∈pls (FT l f):=fun p hp=>by rw[hA] at hp;exact List.mem_of_mem_take hp
    rcases hB with rfl|⟨c,rfl⟩
    ·have hno:(f:Int)∉pls (FT l (f+1)):=by rw[hF,List.append_nil];exact fun h=>hkP (hAmem _ h)
     have hnew:newP (FT l (f+1)) f (canon l f)=[]:=newP_none (fun p hp e=>hno (e▸hp))
     have e:outR l (f+1)=outR l f:=by show outR l f++_=_;rw[if_pos (atR_zero.2 hno),List.append_nil]
     rw[e]
     refine⟨?_,?_⟩
     ·rw[List.range_succ,List.flatMap_append,←ih]
      simp[hnew]
     ·rw[frs_canon,hnew,ihf];simp[frs]
    ·have hnew:=newP_of (k:=(f:Int)) (l:=canon l f) hF
     have hyes:(f:Int)∈pls (FT l (f+1)):=by rw[hF];simp[pls]
     have hAl:(f:Int)∉pls A:=fun h=>hkP (hAmem _ h)
     have hn:atR (FT l (f+1)) f=A.length+1:=by
       unfold atR
       rw[if_pos hyes,hF,pls,List.map_append,List.idxOf_append,if_neg hAl]
       simp
     have hidx:∀k,f+1≤k→(f:Int)∈pls (FT l k)→(pls (FT l k))[atR (FT l (f+1)) f-1]? = some (f:Int):=idx_const l f _ (atR_some hyes).1
     have hup:upR (atR (FT l (f+1)) f) ((pls (FT l (f+1))).getD (atR (FT l (f+1)) f-2) 0) (outR l f) 0 (-1)=upI (FT l (f+1)) (canon l f):=by
       rw[hn]
       unfold upI
       rw[hF,List.dropLast_concat]
       rcases List.eq_nil_or_concat A with h|⟨G,y,h⟩
       ·subst h
        rw[upR_not _ _ _ _ _ (fun h=>by simp at h)]
        rfl
       ·have h':A=G++[y]:=by simpa using h
        have hyA:y.2∈pls A:=by rw[h'];simp[pls]
        rw[h']
        simp only[List.getLast?_append,List.getLast?_singleton,Option.some_or]
        have hp:(pls ((G++[y])++[(c,(f:Int))])).getD ((G++[y]).length+1-2) 0=y.2:=by
          rw[List.getD_eq_getElem?_getD]
          simp only[pls,List.map_append,List.map_cons,List.map_nil,List.length_append,List.length_cons,List.length_nil]
          rw[List.getElem?_append_left (by simp),List.getElem?_append_right (by simp)]
          simp
        rw[hp,upR_idx _ _ (by simp) _ _ _ (by rw[ihf,List.nodup_iff_pairwise_ne];exact ci.rise.imp (fun h=>by omega)) (by rw[ihf];exact ci.sub _ (hAmem _ hyA))]
        rw[Nat.zero_add]
        unfold idxP
        rw[ihf]
     have e:outR l (f+1)=outR l f++[finP l (evol l (l.length-(f+1)) (f+2) ⟨cnt c,f,0,upI (FT l (f+1)) (canon l f),true⟩)]:=by
       show outR l f++_=_
       rw[if_neg (fun h=>atR_zero.1 h hyes)]
       congr 2
       unfold partR finP
       congr 1
       rw[hup,show l.length-f=(l.length-(f+1))+1 by omega]
       have hs:=scan_evol l f _ hidx (l.length-(f+1)+1) (f+1) ⟨0,f,0,upI (FT l (f+1)) (canon l f),true⟩ rfl rfl (Nat.le_refl _)
       rw[hs]
       show fixTo _ (evol l (l.length-(f+1)) (f+2) (upd (FT l (f+1)) ((f+1:Nat):Int) ⟨0,f,0,upI (FT l (f+1)) (canon l f),true⟩))=_
       congr 2
       unfold upd
       rw[if_pos rfl]
       have hfa:findF (FT l (f+1)) (f:Int)=some c:=findF_at (y:=(c,(f:Int))) (FT_nodup l (f+1)) (i:=A.length) (by rw[hF];simp)
       simp only[hfa]
     rw[e]
     refine⟨?_,?_⟩
     ·rw[List.range_succ,List.flatMap_append,←ih]
      simp[hnew]
     ·rw[frs_canon,hnew,frs,List.map_append,show (outR l f).map (·.fr)=_ from ihf]
      simp only[List.map_cons,List.map_nil,finP_fr,evol_fr]
theorem outR_parts (l:List UInt8):outR l l.length=partsL l:=by
  unfold partsL
  rw[(outR_canon l l.length (Nat.le_refl _)).1]
  conv=>rhs;rw[canon_evol]
  rw[List.map_flatMap]
  refine flatMap_congr2 fun f _=>?_
  rw[List.map_map]
  rfl
end Go.Proofs.YtlbfdbinaekjoaaGreatDoor
namespace Go.Proofs.YtlbfdbinaekjoaaGreatDoor
set_option linter.unusedVariables false
set_option linter.unusedSimpArgs false
set_option maxRecDepth 100000
def N76 (st:Stk):Prop:=∀y∈st,y.1.toNat≠76
theorem N76.tail {st:Stk} (h:N76 st):N76 st.tail:=fun y hy=>h y (List.mem_of_mem_tail hy)
theorem N76.cons {st:Stk} {c:UInt8} {p:Int} (h:N76 st) (hc:c.toNat≠76):N76 ((c,p)::st):=by
  intro y hy
  rcases List.mem_cons.1 hy with rfl|hy
  ·exact hc
  ·exact h y hy
theorem N76.of_cons {st:Stk} {y:UInt8×Int} (h:N76 (y::st)):N76 st:=fun z hz=>h z (List.mem_cons_of_mem _ hz)
def DR (a:Int) (x:Stk×Bool):Prop:=N76 x.1∨∃d q r,x.1=((76:UInt8),a)::(d,q)::r∧N76 ((d,q)::r)∧(d.toNat≠88∧d.toNat≠79∧d.toNat≠69)∧(d.toNat=84∨d.toNat=67∨d.toNat=80→x.2=false)
theorem rProgram_d (c:UInt8) (q:Int) (r:Stk) (f:Bool) (b:UInt8) (a:Int) (h:N76 ((c,q)::r)) (hc:c.toNat≠88∧c.toNat≠79∧c.toNat≠69):DR a (rProgram ((c,q)::r) f c b a):=by
  unfold rProgram
  repeat' (refine ite_ok (DR a) (fun _=>?_) (fun _=>?_))
  all_goals first
    | exact .inl h
    | exact .inl h.tail
    | exact .inr ⟨c,q,r,rfl,h,hc,fun _=>rfl⟩
    | exact .inl (h.cons (by decide))
theorem rPlain_d (c:UInt8) (q:Int) (r:Stk) (f:Bool) (b:UInt8) (a:Int) (h:N76 ((c,q)::r)) (h1:c.toNat≠79) (h2:c.toNat≠69):DR a (rPlain ((c,q)::r) f c b a):=by
  unfold rPlain
  refine ite_ok (DR a) (fun h3=>rProgram_d c q r f b a h ⟨by omega,h1,h2⟩) (fun h3=>?_)
  refine ite_ok (DR a) (fun _=>.inl h.tail) (fun h4=>?_)
  have hd:c.toNat≠88∧c.toNat≠79∧c.toNat≠69:=⟨h4,h1,h2⟩
  repeat' (refine ite_ok (DR a) (fun _=>?_) (fun _=>?_))
  all_goals first
    | exact .inl h
    | exact .inl h.tail
    | exact .inr ⟨c,q,r,rfl,h,hd,fun hh=>absurd hh h3⟩
    | exact .inl (h.cons (by decide))
    | exact .inl (h.of_cons.cons (by decide))
theorem rStep_d (st:Stk) (f:Bool) (b:UInt8) (a0 a:Int) (h:DR a0 (st,f)):DR a (rStep st f b a):=by
  rcases h with h|⟨d,q,r,he,h,hd,hf⟩
  ·match st,h with
   | [],h=>exact .inl h
   | (c,p)::r,h=>
     have hc:c.toNat≠76:=h (c,p) (List.mem_cons_self ..)
     unfold rStep
     simp only
     rw[if_neg hc]
     refine ite_ok (DR a) (fun _=>?_) (fun h1=>?_)
     ·exact ite_ok (DR a) (fun _=>.inl (N76.cons h.of_cons (by decide))) (fun _=>rPlain_d 67 p r f b a (N76.cons h.of_cons (by decide)) (by decide) (by decide))
     ·refine ite_ok (DR a) (fun _=>?_) (fun h2=>rPlain_d c p r f b a h h1 h2)
      exact ite_ok (DR a) (fun _=>.inl h.of_cons) (fun _=>rPlain_d 65 p r f b a (N76.cons h.of_cons (by decide)) (by decide) (by decide))
  ·simp only at he
   subst he
   unfold rStep
   simp only
   rw[if_pos (by decide)]
   refine ite_ok (DR a) (fun _=>.inl (h.cons (by decide))) (fun _=>?_)
   refine ite_ok (DR a) (fun _=>?_) (fun _=>?_)
   ·exact ite_ok (DR a) (fun _=>.inl (h.cons (by decide))) (fun _=>.inl (h.cons (by decide)))
   ·exact ite_ok (DR a) (fun _=>.inl h) (fun _=>rPlain_d d q r f b a h hd.2.1 hd.2.2)
theorem rAt_d (l:List UInt8):∀k:Nat,DR ((k:Int)-1) (rAt l k)
  | 0=>.inl (by intro y hy;simp[rAt] at hy;rw[hy];decide)
  | k+1=>by
    have:=rStep_d (rAt l k).1 (rAt l k).2 (l.getD k 0) _ k (rAt_d l k)
    rw[show ((k+1:Nat):Int)-1=k by omega]
    exact this
def P3 (ps:List Int) (a:Int) (x:Stk×Bool):Prop:=pls x.1=ps∨pls x.1=a::ps∨pls x.1=ps.tail
theorem P3.push {ps X:List Int} {a:Int} {x:Stk×Bool} (h:P3 ps a x) (e:pls x.1=a::X) (ha:a∉ps):X=ps:=by
  rcases h with h|h|h
  ·rw[h] at e;exact absurd (e▸List.mem_cons_self ..) ha
  ·rw[h] at e;exact(List.cons.inj e).2.symm
  ·rw[h] at e
   exact absurd (List.mem_of_mem_tail (e▸List.mem_cons_self ..)) ha
theorem tw_byte (p:UInt8→Bool):∀(m:List UInt8) (j:Nat),j<(m.takeWhile p).length→p (m.getD j 0)=true
  | [],j,h=>by simp at h
  | c::m,0,h=>by
    by_cases hc:p c=true
    ·exact hc
    ·rw[List.takeWhile_cons_of_neg hc] at h;simp at h
  | c::m,j+1,h=>by
    by_cases hc:p c=true
    ·rw[List.takeWhile_cons_of_pos hc] at h
     exact tw_byte p m j (by simpa using h)
    ·rw[List.takeWhile_cons_of_neg hc] at h;simp at h
def endStop (l:List UInt8) (a k:Nat):Bool:=endB (rAt (l.drop a) k).1 (l.getD (a+k) 0)
def endL (l:List UInt8) (a:Nat):Nat:=endF (endStop l a) (l.length-a) 0
end Go.Proofs.YtlbfdbinaekjoaaGreatDoor
namespace Go.Proofs.YtlbfdbinaekjoaaGreatDoor
set_option linter.unusedVariables false
set_option linter.unusedSimpArgs false
set_option maxRecDepth 100000
def cloL (c:UInt8):List UInt8:=
  if c.toNat=83 then [39] else if c.toNat=68 then [34] else if c.toNat=66 then [96] else if c.toNat=86∨c.toNat=73 then [125]
  else if c.toNat=67∨c.toNat=79∨c.toNat=80∨c.toNat=82∨c.toNat=69 then [41] else if c.toNat=65 then [41,41] else if c.toNat=88∨c.toNat=35 then [10] else []
theorem cloL_len (c:UInt8):(cloL c).length≤2:=by
  unfold cloL;repeat' split
  all_goals simp
def clo (st:Stk):List UInt8:=st.flatMap fun x=>cloL x.1
end Go.Proofs.YtlbfdbinaekjoaaGreatDoor
