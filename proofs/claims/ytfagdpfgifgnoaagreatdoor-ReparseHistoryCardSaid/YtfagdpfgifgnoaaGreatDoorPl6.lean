/- Plain functions of chapters 4 and 6: the classes of bytes, and the machine of modes as the program and as the reference have it. No program is in sight. -/
import Derived.Lib.Hide
import Derived.WalkKit
set_option linter.unusedVariables false
set_option linter.unusedSimpArgs false
set_option maxRecDepth 100000
set_option maxHeartbeats 8000000
namespace Go.Proofs.YtfagdpfgifgnoaaGreatDoor
section
open Go.RowKit
end
theorem bM (p:UInt8→Bool) (h:(List.range 256).all (fun n=>p (UInt8.ofNat n))=true) (c:UInt8):p c=true:=by
  have h1:=List.all_eq_true.1 h c.toNat (List.mem_range.2 c.toNat_lt)
  rwa [UInt8.ofNat_toNat] at h1
def cw (c:UInt8):Int:=
  if c.toNat=32∨c.toNat=9 then 1
  else if c.toNat=10 then 2
  else if 48≤c.toNat∧c.toNat≤57 then 6
  else if (97≤c.toNat∧c.toNat≤122)∨(65≤c.toNat∧c.toNat≤90)∨c.toNat=95 then 5
  else if c.toNat=124∨c.toNat=38∨c.toNat=59∨c.toNat=60∨c.toNat=62∨c.toNat=40∨c.toNat=41 then 3
  else if c.toNat=92∨c.toNat=39∨c.toNat=34∨c.toNat=96∨c.toNat=36 then 4
  else 0
def dv (c:UInt8):Bool:=decide (cw c=1∨cw c=2∨cw c=3)
def aH (c:UInt8):Int:=
  if c.toNat=84 then 0 else if c.toNat=67 then 1 else if c.toNat=80 then 2 else if c.toNat=79 then 3 else if c.toNat=83 then 4 else if c.toNat=68 then 5 else if c.toNat=66 then 6
  else if c.toNat=86 then 7 else if c.toNat=73 then 8 else if c.toNat=65 then 9 else if c.toNat=82 then 10 else if c.toNat=69 then 11 else if c.toNat=76 then 12 else if c.toNat=88 then 13 else if c.toNat=35 then 14 else 15
def jP (c:UInt8):List UInt8:=if c.toNat=92 then [88] else if c.toNat=36 then [76] else if c.toNat=96 then [66] else []
abbrev bp:=List (UInt8×Int)
variable {g:Bool} {p q u:Int} {PB:Int→Prop} {ps X:List Int} {m i j:Nat} {stop:Nat→Bool} {st r st' F G:bp} {α β:Type} {d:UInt8} {y:UInt8×Int} (fs:List (Int×Int)) (a:Int) (l:List UInt8) (P:List Int) (n:Int) (c:UInt8) (k:Nat)
def rS (st:bp):List UInt8:=(st.map (·.1)).reverse
def rP (st:bp):List Int:=(st.map (·.2)).reverse
theorem Gf (st:bp):(rS st).length=st.length:=by simp[rS]
def aj (st:bp) (f:Bool) (c b:UInt8) (at_:Int):bp×Bool:=
  if b.toNat=92 then ((88,at_)::st,f)
  else if b.toNat=39 then ((83,at_)::st,false)
  else if b.toNat=34 then ((68,at_)::st,false)
  else if b.toNat=96 then ((66,at_)::st,false)
  else if b.toNat=36 then ((76,at_)::st,false)
  else if b.toNat=35∧f=true then ((35,at_)::st,f)
  else if b.toNat=40 then (if c.toNat=84 then (st,true) else ((80,at_)::st,true))
  else if b.toNat=41 then (if c.toNat=84 then (st,true) else (st.tail,decide (c.toNat=80)))
  else (st,dv b)
def aa (st:bp) (f:Bool) (c b:UInt8) (at_:Int):bp×Bool:=
  if c.toNat=84∨c.toNat=67∨c.toNat=80 then aj st f c b at_
  else if c.toNat=88 then (st.tail,if b.toNat=10 then f else false)
  else if c.toNat=83 then (if b.toNat=39 then (st.tail,f) else (st,f))
  else if c.toNat=35 then (if b.toNat=10 then (st.tail,true) else (st,f))
  else if c.toNat=66 then (if b.toNat=96 then (st.tail,f) else if b.toNat=92 then ((88,at_)::st,f) else (st,f))
  else if b.toNat=92 then ((88,at_)::st,f)
  else if b.toNat=36 then ((76,at_)::st,f)
  else if b.toNat=96 then ((66,at_)::st,f)
  else if c.toNat=65∨c.toNat=82 then
    (if b.toNat=40 then ((82,at_)::st,f) else if b.toNat=41∧c.toNat=82 then (st.tail,f)
     else if b.toNat=41 then (match st with|[]=>[]|(_,p)::r=>(69,p)::r,f) else (st,f))
  else if c.toNat=68 then (if b.toNat=34 then (st.tail,f) else (st,f))
  else if b.toNat=34 then ((68,at_)::st,f)
  else if b.toNat=125 then (st.tail,f)
  else if b.toNat=39∧c.toNat=86 then ((83,at_)::st,f)
  else (st,f)
def bJ (st:bp) (f:Bool) (b:UInt8) (at_:Int):bp×Bool:=
  match st with
  | []=>([],f)
  | (c,p)::r=>
    if c.toNat=76 then
      (if b.toNat=40 then ((79,p)::r,true)
       else if b.toNat=123 then
         (match r with
          | (d,_)::_=>if d.toNat=68∨d.toNat=73 then ((73,p)::r,f) else ((86,p)::r,f)
          | []=>((86,p)::r,f))
       else if b.toNat=36 then (r,f)
       else match r with
          | (d,_)::_=>aa r f d b at_
          | []=>(r,f))
    else if c.toNat=79 then
      (if b.toNat=40 then ((65,p)::r,false) else aa ((67,p)::r) f 67 b at_)
    else if c.toNat=69 then
      (if b.toNat=41 then (r,f) else aa ((65,p)::r) f 65 b at_)
    else aa st f c b at_
def gY:bp→Prop
  | []=>False
  | [(c,_)]=>c=84
  | (c,_)::r=>c≠84∧gY r
theorem gY.ne (h:gY st):st≠[]:=by rintro rfl;exact h
theorem gY.single {c:UInt8} (h:gY [(c,p)]):c=84:=h
theorem gY.cons {c:UInt8} {p:Int} {st:bp} (hc:c≠84) (h:gY st):gY ((c,p)::st):=by
  cases st with
  | nil=>exact h.elim
  | cons x r=>exact⟨hc,h⟩
theorem gY.tail {c:UInt8} (hc:c≠84) (h:gY ((c,p)::st)):gY st:=by
  cases st with
  | nil=>exact(hc h).elim
  | cons x r=>exact h.2
theorem gY.turn {c:UInt8} (hc:c≠84) (hd:d≠84) (h:gY ((c,p)::st)):gY ((d,q)::st):=(h.tail hc).cons hd
theorem gY.turn' {c:UInt8} (hc:c.toNat≠84) (hd:d≠84) (h:gY ((c,p)::st)):gY ((d,q)::st):=h.turn (fun e=>hc (by rw[e];rfl)) hd
theorem gY.tail' {c:UInt8} (hc:c.toNat≠84) (h:gY ((c,p)::st)):gY st:=h.tail (fun e=>hc (by rw[e];rfl))
theorem ax {α:Type} (P:α→Prop) {c:Prop} [Decidable c] {a b:α} (h1:c→P a) (h2:¬c→P b):P (if c then a else b):=by
  by_cases h:c
  ·rw[if_pos h];exact h1 h
  ·rw[if_neg h];exact h2 h
theorem pI (r:bp) (f:Bool) (c b:UInt8) (p at_:Int) (h:gY ((c,p)::r)):gY (aj ((c,p)::r) f c b at_).1:=by
  unfold aj
  repeat' (refine ax (fun x:bp×Bool=>gY x.1) (fun _=>?_) (fun _=>?_))
  all_goals first
    | exact h
    | exact h.cons (by decide)
    | exact h.tail' (by omega)
theorem ib (r:bp) (f:Bool) (c b:UInt8) (p at_:Int) (h:gY ((c,p)::r)):gY (aa ((c,p)::r) f c b at_).1:=by
  unfold aa
  repeat' (refine ax (fun x:bp×Bool=>gY x.1) (fun _=>?_) (fun _=>?_))
  all_goals first
    | exact pI _ _ _ _ _ _ h
    | exact h
    | exact h.cons (by decide)
    | exact h.tail' (by omega)
    | exact h.turn' (by omega) (by decide)
theorem vF (st:bp) (f:Bool) (b:UInt8) (at_:Int) (h:gY st):gY (bJ st f b at_).1:=by
  match st,h with
  | (c,p)::r,h=>
    unfold bJ;refine ax (fun x:bp×Bool=>gY x.1) (fun hc=>?_) (fun _=>?_)
    ·have ht:=h.tail' (by omega);refine ax (fun x:bp×Bool=>gY x.1) (fun _=>h.turn' (by omega) (by decide)) (fun _=>?_);refine ax (fun x:bp×Bool=>gY x.1) (fun _=>?_) (fun _=>?_)
     ·cases r with
      | nil=>exact h.turn' (by omega) (by decide)
      | cons x r=>
        obtain⟨d,q⟩:=x;exact ax (fun x:bp×Bool=>gY x.1) (fun _=>h.turn' (by omega) (by decide)) (fun _=>h.turn' (by omega) (by decide))
     ·refine ax (fun x:bp×Bool=>gY x.1) (fun _=>ht) (fun _=>?_)
      cases r with
      | nil=>exact ht
      | cons x r=>obtain⟨d,q⟩:=x;exact ib _ _ _ _ _ _ ht
    ·refine ax (fun x:bp×Bool=>gY x.1) (fun _=>?_) (fun _=>?_)
     ·exact ax (fun x:bp×Bool=>gY x.1) (fun _=>h.turn' (by omega) (by decide)) (fun _=>ib _ _ _ _ _ _ (h.turn' (by omega) (by decide)))
     ·refine ax (fun x:bp×Bool=>gY x.1) (fun _=>?_) (fun _=>ib _ _ _ _ _ _ h);exact ax (fun x:bp×Bool=>gY x.1) (fun _=>h.tail' (by omega)) (fun _=>ib _ _ _ _ _ _ (h.turn' (by omega) (by decide)))
theorem pH (st:bp) (f:Bool) (c b:UInt8) (at_:Int):(aj st f c b at_).1.length≤st.length+1:=by
  unfold aj
  repeat' (refine ax (fun x:bp×Bool=>x.1.length≤st.length+1) (fun _=>?_) (fun _=>?_))
  all_goals (simp;try omega)
theorem ia (st:bp) (f:Bool) (c b:UInt8) (at_:Int):(aa st f c b at_).1.length≤st.length+1:=by
  have h0:=pH st f c b at_;unfold aa
  repeat' (refine ax (fun x:bp×Bool=>x.1.length≤st.length+1) (fun _=>?_) (fun _=>?_))
  all_goals first
    | exact h0
    | (simp;done)
    | (simp;omega)
    | (cases st<;>simp)
theorem vE (st:bp) (f:Bool) (b:UInt8) (at_:Int):(bJ st f b at_).1.length≤st.length+1:=by
  match st with
  | []=>simp[bJ]
  | (c,p)::r=>
    have h1:=ia ((c,p)::r) f c b at_;have h2:=ia ((67,p)::r) f 67 b at_;have h3:=ia ((65,p)::r) f 65 b at_;unfold bJ;refine ax (fun x:bp×Bool=>x.1.length≤r.length+1+1) (fun hc=>?_) (fun _=>?_)
    ·refine ax (fun x:bp×Bool=>x.1.length≤r.length+1+1) (fun _=>by simp) (fun _=>?_);refine ax (fun x:bp×Bool=>x.1.length≤r.length+1+1) (fun _=>?_) (fun _=>?_)
     ·cases r with
      | nil=>simp
      | cons x r=>exact ax (fun x:bp×Bool=>x.1.length≤_) (fun _=>by simp) (fun _=>by simp)
     ·refine ax (fun x:bp×Bool=>x.1.length≤r.length+1+1) (fun _=>by simp;omega) (fun _=>?_)
      cases r with
      | nil=>simp
      | cons x r=>exact Nat.le_succ_of_le (ia _ _ _ _ _)
    ·refine ax (fun x:bp×Bool=>x.1.length≤r.length+1+1) (fun _=>?_) (fun _=>?_)
     ·exact ax (fun x:bp×Bool=>x.1.length≤_) (fun _=>by simp) (fun _=>h2)
     ·refine ax (fun x:bp×Bool=>x.1.length≤r.length+1+1) (fun _=>?_) (fun _=>h1);exact ax (fun x:bp×Bool=>x.1.length≤_) (fun _=>by simp;omega) (fun _=>h3)
def cV (l:List UInt8):Nat→bp×Bool
  | 0=>([(84,0)],true)
  | k+1=>bJ (cV l k).1 (cV l k).2 (l.getD k 0) k
theorem ji (l:List UInt8):∀k,gY (cV l k).1
  | 0=>rfl
  | k+1=>vF _ _ _ _ (ji l k)
theorem ic (l:List UInt8):∀k,(cV l k).1.length≤k+1
  | 0=>by simp[cV]
  | k+1=>by
    have h1:=vE (cV l k).1 (cV l k).2 (l.getD k 0) k;have h2:=ic l k;simp only[cV];omega
def qE (c:UInt8):Bool:=[84,67,80,66,68,86,73,65,82].contains c
def sB (c:UInt8):Bool:=[84,67,80,79,83,68,66,86,73,65,82,69,76,88,35].contains c
theorem mN (h:qE c=true):sB c=true:=by
  have:=bM (fun c => !qE c||sB c) (by decide +kernel) c
  simpa [h] using this
theorem DX (hv:sB c=true) (h1:c.toNat≠79) (h2:c.toNat≠69) (h3:c.toNat≠76) (h4:c.toNat≠88) (h5:c.toNat≠83) (h6:c.toNat≠35):qE c=true:=by
  have:=bM (fun c => !sB c||c.toNat==79||c.toNat==69||c.toNat==76||c.toNat==88||c.toNat==83||c.toNat==35||qE c) (by decide +kernel) c
  simpa [hv,h1,h2,h3,h4,h5,h6] using this
def iD:bp→Prop
  | []=>True
  | (c,_)::r=>sB c=true∧∀y∈r,qE y.1=true
theorem iD.of_mid (h:∀y∈r,qE y.1=true):iD r:=by
  cases r with
  | nil=>trivial
  | cons x r=>exact⟨mN _ (h x (by simp)),fun y hy=>h y (by simp[hy])⟩
theorem iD.push {c:UInt8} (hd:sB d=true) (hc:qE c=true) (h:∀y∈r,qE y.1=true):iD ((d,q)::(c,p)::r):=
  ⟨hd,fun y hy=>by
    rcases List.mem_cons.1 hy with rfl|hy
    ·exact hc
    ·exact h y hy⟩
theorem iD.turn (hd:sB d=true) (h:∀y∈r,qE y.1=true):iD ((d,q)::r):=⟨hd,h⟩
theorem Gk (h:c.toNat=84∨c.toNat=67∨c.toNat=80):qE c=true:=by
  have:=bM (fun c => !(c.toNat==84||c.toNat==67||c.toNat==80)||qE c) (by decide +kernel) c
  rcases h with h|h|h<;>simpa [h] using this
theorem Fi (h:c.toNat=66):qE c=true:=by
  have:=bM (fun c => !(c.toNat==66)||qE c) (by decide +kernel) c
  simpa [h] using this
theorem sY (r:bp) (f:Bool) (c b:UInt8) (p at_:Int) (hv:sB c=true) (hc:qE c=true) (h:∀y∈r,qE y.1=true):iD (aj ((c,p)::r) f c b at_).1:=by
  unfold aj
  repeat' (refine ax (fun x:bp×Bool=>iD x.1) (fun _=>?_) (fun _=>?_))
  all_goals first
    | exact iD.push (by decide) hc h
    | exact⟨hv,h⟩
    | exact iD.of_mid h
theorem kn (r:bp) (f:Bool) (c b:UInt8) (p at_:Int) (hv:sB c=true) (h79:c.toNat≠79) (h69:c.toNat≠69) (h76:c.toNat≠76) (h:∀y∈r,qE y.1=true):iD (aa ((c,p)::r) f c b at_).1:=by
  unfold aa
  repeat' (refine ax (fun x:bp×Bool=>iD x.1) (fun _=>?_) (fun _=>?_))
  all_goals first
    | exact sY _ _ _ _ _ _ hv (Gk c (by omega)) h
    | exact⟨hv,h⟩
    | exact iD.of_mid h
    | exact iD.turn (by decide) h
    | exact iD.push (by decide) (Fi c (by omega)) h
    | exact iD.push (by decide) (DX c hv h79 h69 h76 (by omega) (by omega) (by omega)) h
theorem yD (d:UInt8) (h:qE d=true):d.toNat≠79∧d.toNat≠69∧d.toNat≠76:=by
  have:=bM (fun c => !qE c||(c.toNat != 79&&c.toNat != 69&&c.toNat != 76)) (by decide +kernel) d
  simpa [h,and_assoc] using this
theorem Bm (st:bp) (f:Bool) (b:UInt8) (at_:Int) (h:iD st):iD (bJ st f b at_).1:=by
  match st,h with
  | [],_=>trivial
  | (c,p)::r,⟨hv,h⟩=>
    unfold bJ;refine ax (fun x:bp×Bool=>iD x.1) (fun hc=>?_) (fun _=>?_)
    ·refine ax (fun x:bp×Bool=>iD x.1) (fun _=>iD.turn (by decide) h) (fun _=>?_);refine ax (fun x:bp×Bool=>iD x.1) (fun _=>?_) (fun _=>?_)
     ·cases r with
      | nil=>exact iD.turn (by decide) h
      | cons x r=>obtain⟨d,q⟩:=x;exact ax (fun x:bp×Bool=>iD x.1) (fun _=>iD.turn (by decide) h) (fun _=>iD.turn (by decide) h)
     ·refine ax (fun x:bp×Bool=>iD x.1) (fun _=>iD.of_mid h) (fun _=>?_)
      cases r with
      | nil=>trivial
      | cons x r=>
        obtain⟨d,q⟩:=x;have hd:=h (d,q) (by simp);obtain⟨h1,h2,h3⟩:=yD d hd;exact kn _ _ _ _ _ _ (mN _ hd) h1 h2 h3 (fun y hy=>h y (by simp[hy]))
    ·refine ax (fun x:bp×Bool=>iD x.1) (fun _=>?_) (fun _=>?_)
     ·exact ax (fun x:bp×Bool=>iD x.1) (fun _=>iD.turn (by decide) h) (fun _=>kn _ _ _ _ _ _ (by decide) (by decide) (by decide) (by decide) h)
     ·refine ax (fun x:bp×Bool=>iD x.1) (fun _=>?_) (fun _=>kn _ _ _ _ _ _ hv (by omega) (by omega) (by omega) h);exact ax (fun x:bp×Bool=>iD x.1) (fun _=>iD.of_mid h) (fun _=>kn _ _ _ _ _ _ (by decide) (by decide) (by decide) (by decide) h)
theorem oD (l:List UInt8):∀k,iD (cV l k).1
  | 0=>⟨by decide,by simp⟩
  | k+1=>Bm _ _ _ _ (oD l k)
def lQ (st:bp) (c:UInt8):Bool:=
  dv c&&(match st with
    | [_]=>true
    | [(d,_),_]=>decide (d.toNat=76)&&decide (c.toNat≠40)
    | _=>false)
def fZ (stop:Nat→Bool):Nat→Nat→Nat
  | 0,k=>k
  | m+1,k=>if stop k=true then k else fZ stop m (k+1)
theorem vX {k:Nat} (h:stop k=true):fZ stop m k=k:=by
  cases m with
  | zero=>rfl
  | succ m=>simp[fZ,h]
theorem Ct {k:Nat} (h:stop k=false) (hm:0<m):fZ stop m k=fZ stop (m-1) (k+1):=by
  cases m with
  | zero=>omega
  | succ m=>simp[fZ,h]
def Gv (c:UInt8):Prop:=c.toNat=84∨c.toNat=67∨c.toNat=80
def Hd (st:bp):Prop:=∀c p r,st=(c,p)::r→Gv c
def FO (st:bp):Prop:=∀c p r,st=(c,p)::r→Gv c∨c.toNat=79∨((c.toNat=88∨c.toNat=35)∧Hd r)
def AO:bp→Prop
  | []=>True
  | (c,_)::r=>((c.toNat=80∨c.toNat=35)→Hd r)∧AO r
theorem Hd.of {c:UInt8} (h:Gv c):Hd ((c,p)::r):=by
  rintro _ _ _ ⟨rfl,rfl⟩;exact h
theorem FO.x {c:UInt8} (h:c.toNat=88∨c.toNat=35) (hr:Hd r):FO ((c,p)::r):=by
  rintro _ _ _ ⟨rfl,rfl⟩;exact .inr (.inr ⟨h,hr⟩)
theorem AO.push {c:UInt8} (h:c.toNat≠80∧c.toNat≠35) (hr:AO r):AO ((c,p)::r):=⟨fun h'=>by omega,hr⟩
def BI:bp→Prop
  | []=>False
  | [(c,_)]=>c.toNat=79∨c.toNat=67∨c.toNat=65
  | _::y::r=>BI (y::r)
theorem BI.ne {x:bp} (h:BI x):x≠[]:=by rintro rfl;exact h
theorem BI.push {c:UInt8} {x:bp} (h:BI x):BI ((c,p)::x):=by
  cases x with
  | nil=>exact h.elim
  | cons y r=>exact h
theorem BI.one {c:UInt8} (h:c.toNat=79∨c.toNat=67∨c.toNat=65):BI [(c,p)]:=h
theorem BI.pop {c:UInt8} (h:BI ((c,q)::r)) (h1:c.toNat≠79) (h2:c.toNat≠67) (h3:c.toNat≠65):BI r:=by
  cases r with
  | nil=>have:c.toNat=79∨c.toNat=67∨c.toNat=65:=h
         omega
  | cons y r=>exact h
theorem BI.turn {c:UInt8} (h:BI ((c,q)::r)) (hd:d.toNat=79∨d.toNat=67∨d.toNat=65∨r≠[]):BI ((d,u)::r):=by
  cases r with
  | nil=>rcases hd with h|h|h|h
         ·exact .inl h
         ·exact .inr (.inl h)
         ·exact .inr (.inr h)
         ·exact absurd rfl h
  | cons y r=>exact h
def CS (PB:Int→Prop) (x:bp×Bool):Prop:=∀y∈x.1,PB y.2
theorem CS.cons {PB:Int→Prop} {c:UInt8} {q:Int} {st:bp} {f g:Bool} (h:CS PB (st,f)) (ha:PB q):CS PB ((c,q)::st,g):=by
  intro y hy;rcases List.mem_cons.1 hy with rfl|hy
  ·exact ha
  ·exact h y hy
theorem CS.tail {f:Bool} (h:CS PB (st,f)):CS PB (st.tail,g):=fun y hy=>h y (List.mem_of_mem_tail hy)
theorem CS.any {f:Bool} (h:CS PB (st,f)):CS PB (st,g):=h
abbrev aR (st:bp):List Int:=st.map (·.2)
def iz (ps:List Int) (a:Int) (x:bp×Bool):Prop:=∃m,aR x.1=ps.drop m∨aR x.1=a::ps.drop m
theorem iz.same {f:Bool} {a:Int} (h:aR st'=aR st):iz (aR st) a (st',f):=⟨0,.inl h⟩
theorem iz.push {c:UInt8} {f:Bool} {a:Int}:iz (aR st) a ((c,a)::st,f):=⟨0,.inr rfl⟩
theorem iz.tail {f:Bool} {a:Int}:iz (aR st) a (st.tail,f):=⟨1,.inl (by simp[aR,List.drop_one,List.map_tail])⟩
theorem iz.deep {a:Int} {x:bp×Bool} (h:iz (aR st) a x):iz (aR (y::st)) a x:=by
  obtain⟨m,h⟩:=h;exact⟨m+1,by simpa [aR] using h⟩
theorem sZ (st:bp) (f:Bool) (c b:UInt8) (a:Int):iz (aR st) a (aj st f c b a):=by
  unfold aj
  repeat' (refine ax (iz (aR st) a) (fun _=>?_) (fun _=>?_))
  all_goals first
    | exact iz.push
    | exact iz.tail
    | exact iz.same rfl
theorem kq (st:bp) (f:Bool) (c b:UInt8) (a:Int):iz (aR st) a (aa st f c b a):=by
  unfold aa
  repeat' (refine ax (iz (aR st) a) (fun _=>?_) (fun _=>?_))
  all_goals first
    | exact sZ _ _ _ _ _
    | exact iz.push
    | exact iz.tail
    | exact iz.same rfl
    | (refine iz.same ?_;cases st<;>rfl)
theorem Bo (st:bp) (f:Bool) (b:UInt8) (a:Int):iz (aR st) a (bJ st f b a):=by
  match st with
  | []=>exact iz.same rfl
  | (c,p)::r=>
    unfold bJ;refine ax (iz (aR ((c,p)::r)) a) (fun _=>?_) (fun _=>?_)
    ·refine ax (iz (aR ((c,p)::r)) a) (fun _=>iz.same rfl) (fun _=>?_);refine ax (iz (aR ((c,p)::r)) a) (fun _=>?_) (fun _=>?_)
     ·cases r with
      | nil=>exact iz.same rfl
      | cons y r=>exact ax (iz (aR ((c,p)::y::r)) a) (fun _=>iz.same rfl) (fun _=>iz.same rfl)
     ·refine ax (iz (aR ((c,p)::r)) a) (fun _=>(iz.same rfl).deep) (fun _=>?_)
      cases r with
      | nil=>exact(iz.same rfl).deep
      | cons y r=>exact(kq _ _ _ _ _).deep
    ·refine ax (iz (aR ((c,p)::r)) a) (fun _=>?_) (fun _=>?_)
     ·exact ax (iz (aR ((c,p)::r)) a) (fun _=>iz.same rfl) (fun _=>kq ((67,p)::r) _ _ _ _)
     ·refine ax (iz (aR ((c,p)::r)) a) (fun _=>?_) (fun _=>kq _ _ _ _ _);exact ax (iz (aR ((c,p)::r)) a) (fun _=>(iz.same rfl).deep) (fun _=>kq ((65,p)::r) _ _ _ _)
def XT (l:List UInt8) (k:Nat):bp:=(cV l k).1.dropLast
def FT (l:List UInt8) (k:Nat):bp:=(XT l k).reverse
theorem wh (h:gY st):∃p,st=st.dropLast++[(84,p)]:=by
  induction st with
  | nil=>exact h.elim
  | cons x r ih=>
    cases r with
    | nil=>obtain⟨c,p⟩:=x;obtain rfl:c=84:=h;exact⟨p,rfl⟩
    | cons y r=>
      obtain⟨p,hp⟩:=ih h.2;exact⟨p,by rw[List.dropLast_cons_cons,List.cons_append,←hp]⟩
def lm (x:bp×Bool):Prop:=∀y∈x.1,y.1=84→y.2=0
theorem lm.cons {c:UInt8} {q:Int} {st:bp} {f g:Bool} (h:lm (st,f)) (hc:c≠84):lm ((c,q)::st,g):=by
  intro y hy e;rcases List.mem_cons.1 hy with rfl|hy
  ·exact absurd e hc
  ·exact h y hy e
theorem lm.tail {f:Bool} (h:lm (st,f)):lm (st.tail,g):=fun y hy=>h y (List.mem_of_mem_tail hy)
theorem lm.any {f:Bool} (h:lm (st,f)):lm (st,g):=h
theorem sX (st:bp) (f:Bool) (c b:UInt8) (a:Int) (h:lm (st,f)):lm (aj st f c b a):=by
  unfold aj
  repeat' (refine ax lm (fun _=>?_) (fun _=>?_))
  all_goals first
    | exact h.any
    | exact h.cons (by decide)
    | exact h.tail
theorem km (st:bp) (f:Bool) (c b:UInt8) (a:Int) (h:lm (st,f)):lm (aa st f c b a):=by
  unfold aa
  repeat' (refine ax lm (fun _=>?_) (fun _=>?_))
  all_goals first
    | exact sX st f c b a h
    | exact h.any
    | exact h.cons (by decide)
    | exact h.tail
    | (cases st with
       | nil=>exact h.any
       | cons y r=>exact lm.cons (f:=f) (fun z hz=>h z (List.mem_cons_of_mem _ hz)) (by decide))
theorem Bl (st:bp) (f:Bool) (b:UInt8) (a:Int) (h:lm (st,f)):lm (bJ st f b a):=by
  match st,h with
  | [],h=>exact h
  | (c,p)::r,h=>
    have hr:lm (r,f):=fun z hz=>h z (List.mem_cons_of_mem _ hz)
    unfold bJ;refine ax lm (fun _=>?_) (fun _=>?_)
    ·refine ax lm (fun _=>hr.cons (by decide)) (fun _=>?_);refine ax lm (fun _=>?_) (fun _=>?_)
     ·cases r with
      | nil=>exact hr.cons (by decide)
      | cons y r=>exact ax lm (fun _=>hr.cons (by decide)) (fun _=>hr.cons (by decide))
     ·refine ax lm (fun _=>hr) (fun _=>?_)
      cases r with
      | nil=>exact hr
      | cons y r=>exact km _ _ _ _ _ hr
    ·refine ax lm (fun _=>?_) (fun _=>?_)
     ·exact ax lm (fun _=>hr.cons (by decide)) (fun _=>km _ _ _ _ _ (hr.cons (by decide)))
     ·refine ax lm (fun _=>?_) (fun _=>km _ _ _ _ _ h);exact ax lm (fun _=>hr) (fun _=>km _ _ _ _ _ (hr.cons (by decide)))
theorem C1 (l:List UInt8):∀k:Nat,lm (cV l k)
  | 0=>by intro y hy _;simp[cV] at hy;rw[hy]
  | k+1=>Bl _ _ _ _ (C1 l k)
theorem eN:(cV l k).1=XT l k++[(84,0)]:=by
  obtain⟨p,hp⟩:=wh (ji l k);have h0:p=0:=C1 l k (84,p) (by rw[hp];simp) rfl;subst h0;exact hp
theorem Ai:(cV l k).1.length=(XT l k).length+1:=by rw[eN];simp
theorem Bq:(cV l k).1.reverse=(84,0)::FT l k:=by rw[eN];simp[FT]
theorem vj:∃m,aR (XT l (k+1))=(aR (XT l k)).drop m∨aR (XT l (k+1))=(k:Int)::(aR (XT l k)).drop m:=by
  obtain⟨m,h⟩:=Bo (cV l k).1 (cV l k).2 (l.getD k 0) k;have h':aR (cV l (k+1)).1=(aR (cV l k).1).drop m∨aR (cV l (k+1)).1=(k:Int)::(aR (cV l k).1).drop m:=h;rw[eN l (k+1),eN l k] at h';simp only[aR,List.map_append,List.map_cons,List.map_nil] at h' ⊢;generalize (XT l (k+1)).map (·.2)=A at h' ⊢;generalize (XT l k).map (·.2)=B at h' ⊢;by_cases hm:m≤B.length
  ·rw[List.drop_append_of_le_length hm] at h';refine⟨m,h'.imp (fun e=>(List.append_left_inj _).1 e) (fun e=>?_)⟩;rw[←List.cons_append] at e
   exact(List.append_left_inj _).1 e
  ·rw[List.drop_eq_nil_of_le (by simp;omega)] at h';refine⟨B.length,.inl ?_⟩;rcases h' with e|e
   ·simp at e
   ·cases A with
    | nil=>simp
    | cons x A=>have:=congrArg List.length e;simp at this
theorem qD (l:List UInt8):∀k:Nat,(aR (XT l k)).Pairwise (· > ·)∧∀p∈aR (XT l k),0≤p∧p<(k:Int)
  | 0=>⟨List.Pairwise.nil,by intro p hp;simp[XT,cV,aR] at hp⟩
  | k+1=>by
    obtain⟨h1,h2⟩:=qD l k;obtain⟨m,h|h⟩:=vj l k
    ·rw[h];exact⟨h1.sublist (List.drop_sublist _ _),fun p hp=>by have:=h2 p (List.mem_of_mem_drop hp);omega⟩
    ·rw[h];refine⟨List.Pairwise.cons (fun p hp=>by have:=h2 p (List.mem_of_mem_drop hp);show (k:Int)>p;omega) (h1.sublist (List.drop_sublist _ _)),fun p hp=>?_⟩;rcases List.mem_cons.1 hp with rfl|hp
     ·omega
     ·have:=h2 p (List.mem_of_mem_drop hp);omega
theorem jz:(aR (FT l k)).Pairwise (· < ·)∧∀p∈aR (FT l k),0≤p∧p<(k:Int):=by
  obtain⟨h1,h2⟩:=qD l k;have e:aR (FT l k)=(aR (XT l k)).reverse:=by simp[aR,FT]
  rw[e];exact⟨List.pairwise_reverse.2 h1,fun p hp=>h2 p (List.mem_reverse.1 hp)⟩
theorem CV:∃j,j≤(FT l k).length∧(aR (FT l (k+1))=(aR (FT l k)).take j∨aR (FT l (k+1))=(aR (FT l k)).take j++[(k:Int)]):=by
  obtain⟨m,h⟩:=vj l k;have e:∀k,aR (FT l k)=(aR (XT l k)).reverse:=by intro k;simp[aR,FT]
  refine⟨(FT l k).length-m,by omega,?_⟩;rw[e,e];have hl:(FT l k).length=(aR (XT l k)).length:=by simp[FT,aR]
  rw[hl,←List.reverse_drop];rcases h with h|h
  ·left;rw[h]
  ·right;rw[h];simp
structure bA where
  mode:Int
  fr:Int
  to:Int
  up:Int
  op:Bool
def dP:bA:=⟨0,0,0,0,false⟩
def fS (m:Int):Int:=if m=3 then 1 else if m=11 then 9 else m
def sJ (c:UInt8):Int:=fS (aH c)
abbrev db (l:List bA):List Int:=l.map (·.fr)
def dj (l:List bA) (p:Int):Nat:=(db l).idxOf p
def kV (F:bp) (p:Int):Option UInt8:=(F.find? (fun x=>x.2==p)).map (·.1)
def ml (F:bp) (k1:Int) (q:bA):bA:=
  if q.op=true then (match kV F q.fr with
    | some c=>{q with mode:=sJ c}
    | none=>{q with to:=k1,op:=false})
  else q
def wE (F:bp) (l:List bA):Int:=match F.dropLast.getLast? with
  | none => -1
  | some y=>(dj l y.2:Int)
def im (F:bp) (k:Int) (l:List bA):List bA:=match F.getLast? with
  | none=>[]
  | some y=>if y.2=k then [⟨sJ y.1,k,0,wE F l,true⟩] else []
def aE (l:List UInt8):Nat→List bA
  | 0=>[]
  | k+1=>(aE l k).map (ml (FT l (k+1)) ((k:Int)+1))++im (FT l (k+1)) k (aE l k)
theorem sM (F:bp) (k1:Int) (q:bA):(ml F k1 q).fr=q.fr:=by
  unfold ml;split
  ·split<;>rfl
  ·rfl
theorem uV (F:bp) (k1:Int) (l:List bA):db (l.map (ml F k1))=db l:=by
  simp only[db,List.map_map];exact List.map_congr_left fun q _=>sM F k1 q
theorem nL (h:p∈aR F):∃c,kV F p=some c∧(c,p)∈F:=by
  obtain⟨y,hy,he⟩:=List.mem_map.1 h
  cases hf:F.find? (fun x=>x.2==p) with
  | none=>have:=List.find?_eq_none.1 hf y hy;simp[he] at this
  | some z=>
    have h1:=List.find?_some hf;have h2:=List.mem_of_find?_eq_some hf;simp at h1;obtain⟨c,q⟩:=z;simp at h1;subst h1;exact⟨c,by unfold kV;rw[hf];rfl,h2⟩
theorem jV (h:p∉aR F):kV F p=none:=by
  unfold kV;rw[List.find?_eq_none.2]
  ·rfl
  ·intro y hy;simp only[beq_iff_eq];intro e;exact h (List.mem_map.2 ⟨y,hy,e⟩)
theorem jl {k:Int} {l:List bA} {c:UInt8} (h:F=G++[(c,k)]):im F k l=[⟨sJ c,k,0,wE F l,true⟩]:=by
  subst h;simp[im]
theorem jm {k:Int} {l:List bA} (h:∀p∈aR F,p≠k):im F k l=[]:=by
  unfold im
  cases hg:F.getLast? with
  | none=>rfl
  | some y=>
    have:y∈F:=List.mem_of_getLast? hg
    simp only;rw[if_neg (h y.2 (List.mem_map.2 ⟨y,this,rfl⟩))]
theorem gX:∃(j:Nat) (A B:bp),FT l (k+1)=A++B∧j≤(FT l k).length∧aR A=(aR (FT l k)).take j∧(B=[]∨∃c,B=[(c,(k:Int))]):=by
  obtain⟨j,hj,h⟩:=CV l k;refine⟨j,(FT l (k+1)).take j,(FT l (k+1)).drop j,(List.take_append_drop _ _).symm,hj,?_,?_⟩
  ·rw[aR,List.map_take];rcases h with h|h
   ·rw[show (FT l (k+1)).map (·.2)=_ from h,List.take_take,Nat.min_self]
   ·rw[show (FT l (k+1)).map (·.2)=_ from h,List.take_append_of_le_length (by simp[aR];omega),List.take_take,Nat.min_self]
  ·have e:aR ((FT l (k+1)).drop j)=(aR (FT l (k+1))).drop j:=by simp[aR,List.map_drop]
   rcases h with h|h
   ·left
    rw[h,List.drop_take] at e;simpa [aR] using e
   ·right
    rw[h,List.drop_append,List.drop_take] at e;simp only[List.length_take,aR,List.length_map,Nat.min_eq_left hj,Nat.sub_self,List.take_zero,List.nil_append,List.drop_zero] at e
    match hd:(FT l (k+1)).drop j,e with
    | [(c,p)],e=>simp at e;exact⟨c,by rw[e]⟩
structure CI (l:List UInt8) (k:Nat):Prop where
  rise:(db (aE l k)).Pairwise (· < ·)
  bnd:∀p∈db (aE l k),0≤p∧p<(k:Int)
  opn:∀q∈aE l k,(q.op=true↔q.fr∈aR (FT l k))
  sub:∀p∈aR (FT l k),p∈db (aE l k)
theorem rV (F:bp) (k:Int) (l:List bA):db (im F k l)=[]∨db (im F k l)=[k]:=by
  unfold im;split
  ·exact .inl rfl
  ·split
   ·exact .inr rfl
   ·exact .inl rfl
theorem eQ:db (aE l (k+1))=db (aE l k)++db (im (FT l (k+1)) k (aE l k)):=by
  simp only[aE,db,List.map_append];congr 1;exact uV _ _ _
theorem Dj {k1:Int} {q:bA}:(ml F k1 q).op=true↔q.op=true∧q.fr∈aR F:=by
  unfold ml;by_cases ho:q.op=true
  ·rw[if_pos ho];by_cases hm:q.fr∈aR F
   ·obtain⟨c,hc,_⟩:=nL hm;rw[hc];simp[ho,hm]
   ·rw[jV hm];simp[hm]
  ·rw[if_neg ho];simp[ho]
theorem gU (l:List UInt8):∀k,CI l k
  | 0=>⟨List.Pairwise.nil,by intro p hp;simp[aE,db] at hp,by intro q hq;simp[aE] at hq,by intro p hp;simp[FT,XT,cV,aR] at hp⟩
  | k+1=>by
    have ih:=gU l k;obtain⟨j,A,B,hF,hj,hA,hB⟩:=gX l k;have hr:=(jz l k);have hkP:(k:Int)∉aR (FT l k):=fun h=>by have:=hr.2 _ h;omega
    have hkC:(k:Int)∉db (aE l k):=fun h=>by have:=ih.bnd _ h;omega
    have hAsub:∀p∈aR A,p∈aR (FT l k):=fun p hp=>by rw[hA] at hp;exact List.mem_of_mem_take hp
    refine⟨?_,?_,?_,?_⟩
    ·rw[eQ];rcases rV (FT l (k+1)) k (aE l k) with h|h
     ·rw[h,List.append_nil];exact ih.rise
     ·rw[h,List.pairwise_append];exact⟨ih.rise,List.pairwise_singleton _ _,fun a ha b hb=>by simp at hb;subst hb;exact(ih.bnd a ha).2⟩
    ·intro p hp;rw[eQ] at hp;rcases List.mem_append.1 hp with hp|hp
     ·have:=ih.bnd p hp;omega
     ·rcases rV (FT l (k+1)) k (aE l k) with h|h
      ·rw[h] at hp;cases hp
      ·rw[h] at hp;simp at hp;omega
    ·intro q hq;simp only[aE] at hq;rcases List.mem_append.1 hq with hq|hq
     ·obtain⟨q0,hq0,rfl⟩:=List.mem_map.1 hq;rw[Dj,sM,ih.opn q0 hq0];constructor
      ·exact fun h=>h.2
      ·intro h;refine⟨?_,h⟩;rw[hF,aR,List.map_append] at h;rcases List.mem_append.1 h with h|h
       ·exact hAsub _ h
       ·exfalso;rcases hB with rfl|⟨c,rfl⟩
        ·cases h
        ·simp at h;exact hkC (h▸List.mem_map.2 ⟨q0,hq0,rfl⟩)
     ·rcases hB with rfl|⟨c,rfl⟩
      ·rw[jm] at hq
       ·cases hq
       ·intro p hp e;subst e;rw[hF,List.append_nil] at hp;exact hkP (hAsub _ hp)
      ·rw[jl hF] at hq;simp at hq;subst hq;simp[hF,aR]
    ·intro p hp;rw[eQ];rw[hF,aR,List.map_append] at hp;rcases List.mem_append.1 hp with hp|hp
     ·exact List.mem_append_left _ (ih.sub p (hAsub p hp))
     ·rcases hB with rfl|⟨c,rfl⟩
      ·cases hp
      ·rw[jl hF];exact List.mem_append_right _ (by simpa [db] using hp)
def er (fs:List (Int×Int)) (a:Int):Nat→List bA→List Nat→List bA×List Nat
  | 0,l,h=>(l,h)
  | n+1,l,h=>
    if n+1≤fs.length∧(fs.getD n (0,0)).2=(l.getD (h.getD n 0) dP).fr then (l,h)
    else er fs a n (l.set (h.getD n 0) {l.getD (h.getD n 0) dP with to:=a+1,op:=false}) (h.take n)
def bE:List (Int×Int)→Nat→List bA→List Nat→List bA×List Nat
  | [],_,l,h=>(l,h)
  | f::fs,i,l,h=>
    if i<h.length then bE fs (i+1) (l.set (h.getD i 0) {l.getD (h.getD i 0) dP with mode:=fS f.1}) h
    else bE fs (i+1) (l++[⟨fS f.1,f.2,0,if 0<i then ((h.getD (i-1) 0:Nat):Int) else -1,true⟩]) (h++[l.length])
def sW (fs:List (Int×Int)) (a:Int) (l:List bA) (h:List Nat):List bA×List Nat:=
  let x:=er fs a h.length l h
  bE fs 0 x.1 x.2
theorem tL {l:List bA} (h:p∈db l):dj l p<l.length:=by
  have:=List.idxOf_lt_length_of_mem h
  simpa [dj,db] using this
theorem yP {l:List bA} (h:p∈db l):(l.getD (dj l p) dP).fr=p:=by
  have hl:=tL h;have h1:(db l)[dj l p]'(by simpa [db] using hl)=p:=List.getElem_idxOf (List.idxOf_lt_length_of_mem h);rw[List.getD_eq_getElem?_getD,List.getElem?_eq_getElem hl];simpa [db] using h1
theorem xj {l:List bA} (hr:(db l).Pairwise (· < ·)) (hi:i<l.length) (hj:j<l.length) (e:l[i].fr=l[j].fr):i=j:=by
  rcases Nat.lt_trichotomy i j with h|h|h
  ·have:=List.pairwise_iff_getElem.1 hr i j (by simpa [db] using hi) (by simpa [db] using hj) h
   simp[db] at this;omega
  ·exact h
  ·have:=List.pairwise_iff_getElem.1 hr j i (by simpa [db] using hj) (by simpa [db] using hi) h
   simp[db] at this;omega
theorem uy {l:List bA} (hr:(db l).Pairwise (· < ·)) (hp:p∈db l) (f:bA→bA):l.set (dj l p) (f (l.getD (dj l p) dP))=l.map fun q=>if q.fr=p then f q else q:=by
  have hl:=tL hp;have hf:=yP hp;apply List.ext_getElem (by simp);intro i h1 h2;have hi:i<l.length:=by simpa using h1
  rw[List.getElem_map];by_cases e:i=dj l p
  ·subst e;rw[List.getElem_set_self,List.getD_eq_getElem?_getD,List.getElem?_eq_getElem hl] at *;simp only[Option.getD_some] at hf ⊢;rw[if_pos hf]
  ·rw[List.getElem_set_ne (Ne.symm e)];rw[if_neg];intro e2;apply e;apply xj hr hi hl;rw[e2];rw[List.getD_eq_getElem?_getD,List.getElem?_eq_getElem hl] at hf;exact hf.symm
def jY (a:Int) (q:bA):bA:={q with to:=a+1,op:=false}
theorem tN (P:bA→Prop) [DecidablePred P] (f:bA→bA) (hf:∀q,(f q).fr=q.fr) (l:List bA):db (l.map fun q=>if P q then f q else q)=db l:=by
  simp only[db,List.map_map];refine List.map_congr_left fun q _=>?_
  simp only[Function.comp];split
  ·exact hf q
  ·rfl
theorem vC (hP:P.Nodup) (j:Nat) (hj:j≤P.length) (hfs:fs.map (·.2)=P.take j∨∃k,k∉P∧fs.map (·.2)=P.take j++[k]) :
    ∀(n:Nat) (l:List bA),j≤n→n≤P.length→(db l).Pairwise (· < ·)→(∀p∈P,p∈db l) →
     er fs a n l ((P.map (dj l)).take n)=(l.map (fun q=>if q.fr∈(P.take n).drop j then jY a q else q),(P.map (dj l)).take j):=by
  have hfl:fs.length=j∨(fs.length=j+1∧∃k,k∉P∧fs.map (·.2)=P.take j++[k]):=by
    rcases hfs with h|⟨k,hk,h⟩
    ·left;have:=congrArg List.length h;simp at this;omega
    ·right;refine⟨?_,k,hk,h⟩;have:=congrArg List.length h;simp at this;omega
  have hat:∀i,i<j→(fs.getD i (0,0)).2=P.getD i 0:=by
    intro i hi;have h1:(fs.map (·.2))[i]? = P[i]? := by
      rcases hfs with h|⟨k,hk,h⟩
      ·rw[h,List.getElem?_take,if_pos hi]
      ·rw[h,List.getElem?_append_left (by simp;omega),List.getElem?_take,if_pos hi]
    rw[List.getElem?_map] at h1;rw[List.getD_eq_getElem?_getD,List.getD_eq_getElem?_getD,←h1]
    cases h2:fs[i]? with
    | none=>
      exfalso;rw[List.getElem?_eq_none_iff] at h2;omega
    | some x=>rfl
  intro n
  induction n with
  | zero=>
    intro l h0 _ hr hs;obtain rfl:j=0:=by omega
    simp[er]
  | succ n ih=>
    intro l h0 h1 hr hs;have hn:n<P.length:=by omega
    have hPn:P[n]∈db l:=hs _ (List.getElem_mem hn);have hg:((P.map (dj l)).take (n+1)).getD n 0=dj l P[n]:=by
      rw[List.getD_eq_getElem?_getD,List.getElem?_take,if_pos (by omega),List.getElem?_map,List.getElem?_eq_getElem hn];rfl
    unfold er;rw[hg,yP hPn];by_cases hjn:j=n+1
    ·have hc:=hat n (by omega);rw[List.getD_eq_getElem?_getD (l:=P),List.getElem?_eq_getElem hn] at hc;rw[if_pos ⟨by rcases hfl with h|h<;>omega,hc⟩];rw[show (P.take (n+1)).drop j=[] by rw[hjn];simp];simp[hjn]
    ·have hne:¬(n+1≤fs.length∧(fs.getD n (0,0)).2=P[n]):=by
       rintro ⟨h2,h3⟩;rcases hfl with h|⟨h,k,hk,hfk⟩
       ·omega
       ·obtain rfl:n=j:=by omega
        have h4:(fs.map (·.2))[n]? = some k:=by
          rw[hfk,List.getElem?_append_right (by simp;omega)];simp[Nat.min_eq_left hj]
        rw[List.getElem?_map] at h4;rw[List.getD_eq_getElem?_getD] at h3
        cases h5:fs[n]? with
        | none=>rw[h5] at h4;cases h4
        | some x=>
          rw[h5] at h3 h4;simp at h3 h4;exact hk (by rw[←h4,h3];exact List.getElem_mem hn)
     rw[if_neg hne];have hset:=uy hr hPn (jY a);unfold jY at hset;rw[hset];have hfr:db (l.map fun q=>if q.fr=P[n] then ({q with to:=a+1,op:=false}:bA) else q)=db l:=tN (fun q=>q.fr=P[n]) (jY a) (fun _=>rfl) l;have hix:∀p,dj (l.map fun q=>if q.fr=P[n] then ({q with to:=a+1,op:=false}:bA) else q) p=dj l p:=fun p=>by unfold dj;rw[hfr]
     have hih:=ih (l.map fun q=>if q.fr=P[n] then ({q with to:=a+1,op:=false}:bA) else q) (by omega) (by omega) (by rw[hfr];exact hr) (by rw[hfr];exact hs);have hmap:P.map (dj (l.map fun q=>if q.fr=P[n] then ({q with to:=a+1,op:=false}:bA) else q))=P.map (dj l):=List.map_congr_left fun p _=>hix p
     rw[hmap] at hih;rw[List.take_take,Nat.min_eq_left (by omega),hih];congr 1;rw[List.map_map];refine List.map_congr_left fun q _=>?_
     have hsp:(P.take (n+1)).drop j=(P.take n).drop j++[P[n]]:=by
       rw[List.take_succ_eq_append_getElem hn,List.drop_append_of_le_length (by simp;omega)]
     have hnd:P[n]∉(P.take n).drop j:=by
       intro hm;have hm':=List.mem_of_mem_drop hm;rw[List.nodup_iff_pairwise_ne] at hP;obtain⟨i,hi,e⟩:=List.mem_take_iff_getElem.1 hm'
       have:=List.pairwise_iff_getElem.1 hP i n (by omega) hn (by omega)
       exact this e
     rw[hsp];simp only[Function.comp];by_cases e:q.fr=P[n]
     ·rw[if_pos e,if_neg (show ¬({q with to:=a+1,op:=false}:bA).fr∈(P.take n).drop j by show ¬q.fr∈_;rw[e];exact hnd),if_pos (show q.fr∈(P.take n).drop j++[P[n]] by simp[e])];rfl
     ·rw[if_neg e];by_cases e2:q.fr∈(P.take n).drop j
      ·rw[if_pos e2,if_pos (by simp[e2])]
      ·rw[if_neg e2,if_neg (by simp[e2,e])]
def qC (A:List (Int×Int)) (q:bA):bA:=match A.find? (fun x=>x.2==q.fr) with
  | some x=>{q with mode:=fS x.1}
  | none=>q
theorem mZ (B:List (Int×Int)):∀(A:List (Int×Int)) (i:Nat) (l:List bA) (h:List Nat),(db l).Pairwise (· < ·)→(∀x∈A,x.2∈db l)→(A.map (·.2)).Nodup →
    (∀t x,A[t]? = some x→h[i+t]? = some (dj l x.2))→bE (A++B) i l h=bE B (i+A.length) (l.map (qC A)) h
  | [],i,l,h,_,_,_,_=>by
    have:l.map (qC [])=l:=by
      rw[show (qC [])=id from funext fun q=>rfl,List.map_id]
    rw[this];rfl
  | f::A,i,l,h,hr,hm,hn,hh=>by
    have h0:=hh 0 f rfl;rw[Nat.add_zero] at h0;have hil:i<h.length:=(List.getElem?_eq_some_iff.1 h0).1;have hgi:h.getD i 0=dj l f.2:=by rw[List.getD_eq_getElem?_getD,h0];rfl
    have hf:=hm f (by simp);rw[List.cons_append];have hu:bE (f::(A++B)) i l h=bE (A++B) (i+1) (l.set (h.getD i 0) {l.getD (h.getD i 0) dP with mode:=fS f.1}) h:=by rw[bE,if_pos hil]
    rw[hu,hgi];have hset:=uy hr hf (fun q=>{q with mode:=fS f.1});rw[hset];have hfr:db (l.map fun q=>if q.fr=f.2 then ({q with mode:=fS f.1}:bA) else q)=db l:=tN (fun q=>q.fr=f.2) (fun q=>{q with mode:=fS f.1}) (fun _=>rfl) l;rw[List.map_cons,List.nodup_cons] at hn;rw[mZ B A (i+1) _ h (by rw[hfr];exact hr) (fun x hx=>by rw[hfr];exact hm x (by simp[hx])) hn.2 (fun t x hx=>by
      unfold dj;rw[hfr]
      have:=hh (t+1) x (by simpa using hx)
      rw[show i+(t+1)=i+1+t by omega] at this;exact this)]
    rw[List.map_map,List.length_cons,show i+1+A.length=i+(A.length+1) by omega];congr 1;refine List.map_congr_left fun q _=>?_
    simp only[Function.comp];by_cases e:q.fr=f.2
    ·rw[if_pos e];have e1:A.find? (fun x=>x.2==q.fr)=none:=by
       rw[List.find?_eq_none];intro x hx;simp only[beq_iff_eq];intro e2;exact hn.1 (List.mem_map.2 ⟨x,hx,by rw[e2,e]⟩)
     unfold qC;simp only[e1];rw[List.find?_cons_of_pos (by simp[e])]
    ·rw[if_neg e];unfold qC;rw[List.find?_cons_of_neg (by simp;exact fun h=>e h.symm)]
def fj (l:List UInt8) (k:Nat):List Nat:=(aR (FT l k)).map (dj (aE l k))
def js (F:bp):List (Int×Int):=F.map fun x=>(aH x.1,x.2)
theorem mR (F:bp):(js F).map (·.2)=aR F:=by simp[js,aR]
theorem nK (F:bp) (p:Int):(js F).find? (fun x=>x.2==p)=(F.find? (fun x=>x.2==p)).map fun x=>(aH x.1,x.2):=by
  unfold js;rw[List.find?_map];rfl
theorem vB:sW (js (FT l (k+1))) k (aE l k) (fj l k)=(aE l (k+1),fj l (k+1)):=by
  have ci:=gU l k;obtain⟨j,A,B,hF,hj,hA,hB⟩:=gX l k;have hr:=jz l k;have hnd:(aR (FT l k)).Nodup:=by rw[List.nodup_iff_pairwise_ne];exact hr.1.imp (fun h=>by omega)
  have hkP:(k:Int)∉aR (FT l k):=fun h=>by have:=hr.2 _ h;omega
  have hkC:(k:Int)∉db (aE l k):=fun h=>by have:=ci.bnd _ h;omega
  have hjl:j≤(aR (FT l k)).length:=by simpa [aR] using hj
  have hlen:(fj l k).length=(aR (FT l k)).length:=by simp[fj]
  have hpop:=vC (js (FT l (k+1))) k (aR (FT l k)) hnd j hjl (by
    rw[mR,hF,aR,List.map_append];rw[show A.map (·.2)=_ from hA];rcases hB with rfl|⟨c,rfl⟩
    ·left;simp
    ·right;exact⟨k,hkP,rfl⟩) (aR (FT l k)).length (aE l k) hjl (Nat.le_refl _) ci.rise ci.sub
  rw[List.take_of_length_le (Nat.le_refl _),List.take_of_length_le (by simp)] at hpop;unfold sW;rw[hlen];show (let x:=er _ _ _ _ ((aR (FT l k)).map (dj (aE l k)));bE _ 0 x.1 x.2)=_;rw[hpop];simp only;have hfsA:js (FT l (k+1))=js A++js B:=by rw[hF];simp[js]
  have hAmem:∀p∈aR A,p∈aR (FT l k):=fun p hp=>by rw[hA] at hp;exact List.mem_of_mem_take hp
  have hfr1:db ((aE l k).map fun q=>if q.fr∈(aR (FT l k)).drop j then jY k q else q)=db (aE l k):=tN (fun q=>q.fr∈(aR (FT l k)).drop j) (jY k) (fun _=>rfl) _;have hAl:A.length=j:=by have:=congrArg List.length hA;simp[aR] at this;simp[aR] at hjl;omega
  rw[hfsA,mZ (js B) (js A) 0 _ _ (by rw[hfr1];exact ci.rise) (fun x hx=>by
    rw[hfr1]
    have:x.2∈aR A:=by rw[←mR];exact List.mem_map.2 ⟨x,hx,rfl⟩
    exact ci.sub _ (hAmem _ this)) (by rw[mR,hA];exact hnd.sublist (List.take_sublist _ _)) (fun t x hx=>by
    unfold dj;rw[hfr1,Nat.zero_add];have h1:(aR A)[t]? = some x.2:=by rw[←mR,List.getElem?_map,hx];rfl
    have ht:t<j:=by have:=(List.getElem?_eq_some_iff.1 h1).1;rw[←hAl];simpa [aR] using this
    rw[hA,List.getElem?_take,if_pos ht] at h1;rw[List.getElem?_take,if_pos ht,List.getElem?_map,h1];rfl)]
  have hlist:(((aE l k).map fun q=>if q.fr∈(aR (FT l k)).drop j then jY k q else q).map (qC (js A)))=(aE l k).map (ml (FT l (k+1)) ((k:Int)+1)):=by
    rw[List.map_map];refine List.map_congr_left fun q hq=>?_
    have hqf:q.fr∈db (aE l k):=List.mem_map.2 ⟨q,hq,rfl⟩;have hqk:q.fr≠(k:Int):=fun e=>hkC (e▸hqf)
    simp only[Function.comp];have htd:q.fr∈aR (FT l k)↔q.fr∈(aR (FT l k)).take j∨q.fr∈(aR (FT l k)).drop j:=by
      rw[←List.mem_append,List.take_append_drop]
    have hFmem:q.fr∈aR (FT l (k+1))↔q.fr∈aR A:=by
      rw[hF,aR,List.map_append,List.mem_append];constructor
      ·rintro (h|h)
       ·exact h
       ·rcases hB with rfl|⟨c,rfl⟩
        ·cases h
        ·simp at h;exact absurd h hqk
      ·exact .inl
    have hopn:=ci.opn q hq;by_cases hd:q.fr∈(aR (FT l k)).drop j
    ·have hnt:q.fr∉aR A:=by
       rw[hA];intro ht;rw[←List.take_append_drop j (aR (FT l k))] at hnd
       exact(List.nodup_append.1 hnd).2.2 _ ht _ hd rfl
     rw[if_pos hd];have ho:q.op=true:=hopn.2 (htd.2 (.inr hd));have e1:(js A).find? (fun x=>x.2==(jY (k:Int) q).fr)=none:=by
       rw[nK,Option.map_eq_none_iff,List.find?_eq_none];intro y hy;simp only[beq_iff_eq];intro e;exact hnt (List.mem_map.2 ⟨y,hy,e⟩)
     unfold qC ml;rw[if_pos ho,jV (fun h=>hnt (hFmem.1 h))];simp only[e1];rfl
    ·rw[if_neg hd];by_cases ht:q.fr∈aR A
     ·have ho:q.op=true:=hopn.2 (hAmem _ ht);obtain⟨y,hy,hye⟩:=List.mem_map.1 ht;have hsome:(A.find? (fun x=>x.2==q.fr)).isSome=true:=by
        rw[List.find?_isSome];exact⟨y,hy,by simp[hye]⟩
      obtain⟨z,hz⟩:=Option.isSome_iff_exists.1 hsome;have e1:(js A).find? (fun x=>x.2==q.fr)=some (aH z.1,z.2):=by rw[nK,hz];rfl
      have e2:kV (FT l (k+1)) q.fr=some z.1:=by unfold kV;rw[hF,List.find?_append,hz];rfl
      unfold qC ml;rw[if_pos ho];simp only[e1,e2];rfl
     ·have hno:¬q.op=true:=fun h=>by
        rcases htd.1 (hopn.1 h) with h1|h1
        ·rw[←hA] at h1;exact ht h1
        ·exact hd h1
      have e1:(js A).find? (fun x=>x.2==q.fr)=none:=by
        rw[nK,Option.map_eq_none_iff,List.find?_eq_none];intro y hy;simp only[beq_iff_eq];intro e;exact ht (List.mem_map.2 ⟨y,hy,e⟩)
      unfold qC ml;rw[if_neg hno];simp only[e1]
  rw[hlist];have hhA:((aR (FT l k)).map (dj (aE l k))).take j=(aR A).map (dj (aE l k)):=by rw[hA,List.map_take]
  rw[hhA];have hixm:∀m:List bA,db m=db (aE l k)→∀p,dj m p=dj (aE l k) p:=fun m hm p=>by unfold dj;rw[hm]
  have hfu:db ((aE l k).map (ml (FT l (k+1)) ((k:Int)+1)))=db (aE l k):=uV _ _ _;have hfsl:(js A).length=j:=by simp[js,hAl]
  rw[Nat.zero_add,hfsl];have hold:∀p∈aR A,dj (aE l (k+1)) p=dj (aE l k) p:=by
    intro p hp;unfold dj;rw[eQ,List.idxOf_append,if_pos (ci.sub p (hAmem p hp))]
  rcases hB with rfl|⟨c,rfl⟩
  ·have hnew:im (FT l (k+1)) k (aE l k)=[]:=jm (by
     intro p hp e;subst e;rw[hF,List.append_nil] at hp;exact hkP (hAmem _ hp))
   show bE [] _ _ _=_;rw[show aE l (k+1)=(aE l k).map (ml (FT l (k+1)) ((k:Int)+1))++im (FT l (k+1)) k (aE l k) from rfl,hnew,List.append_nil];unfold bE fj;rw[Prod.mk.injEq];refine⟨rfl,?_⟩;rw[hF,List.append_nil]
   exact(List.map_congr_left fun p hp=>hold p hp).symm
  ·have hnew:=jl (k:=(k:Int)) (l:=aE l k) hF;show bE [(aH c,(k:Int))] _ _ _=_;unfold bE;have hnl:¬j<((aR A).map (dj (aE l k))).length:=by simp[aR,hAl]
   rw[if_neg hnl];unfold bE;rw[show aE l (k+1)=(aE l k).map (ml (FT l (k+1)) ((k:Int)+1))++im (FT l (k+1)) k (aE l k) from rfl,hnew];rw[Prod.mk.injEq];constructor
   ·congr 1;simp only[List.cons.injEq,and_true];congr 1;unfold wE;rw[hF,List.dropLast_concat];rcases Nat.eq_zero_or_pos j with h0|h0
    ·have:A=[]:=List.eq_nil_of_length_eq_zero (by omega)
     subst this;simp[h0]
    ·rw[if_pos h0];obtain⟨G,y,rfl⟩:∃G y,A=G++[y]:=by
       rcases List.eq_nil_or_concat A with h|⟨G,y,h⟩
       ·subst h;simp at hAl;omega
       ·exact⟨G,y,by simpa using h⟩
     simp at hAl;simp only[List.getLast?_append,List.getLast?_singleton,Option.some_or];rw[List.getD_eq_getElem?_getD,List.getElem?_map]
     have:(aR (G++[y]))[j-1]? = some y.2:=by
       simp only[aR,List.map_append,List.map_cons,List.map_nil];rw[List.getElem?_append_right (by simp;omega)];simp[show j-1-G.length=0 by omega]
     rw[this];rfl
   ·have hP1:aR (FT l (k+1))=aR A++[(k:Int)]:=by rw[hF];simp[aR]
    have hC:db (aE l (k+1))=db (aE l k)++[(k:Int)]:=by rw[eQ,hnew];rfl
    unfold fj;rw[hP1,List.map_append,List.map_cons,List.map_nil];congr 1
    ·exact(List.map_congr_left fun p hp=>(hold p hp).symm)
    ·rw[List.length_map];unfold dj;rw[hC,List.idxOf_append,if_neg hkC];simp[db]
def fW (c:UInt8):Bool:=decide (cw c=5)
def dL (c:UInt8):Bool:=decide (cw c=6)
def fM (c:UInt8):Bool:=fW c||dL c
def mM (l:List UInt8):Nat:=match l with
  | []=>0
  | c::_=>if fW c=true then (l.takeWhile fM).length else 0
def qK (c:UInt8):Bool:=[64,42,35,63,45,36,33].contains c
def rB (l:List UInt8):Nat:=if 0<mM l then mM l else match l with
  | []=>0
  | c::_=>if qK c=true∨dL c=true then 1 else 0
def lw (l:List UInt8) (i:Nat):Nat:=rB (l.drop i)
def fP (n:Int) (q:bA):bA:=if q.op=true then {q with to:=n} else q
def mz (l:List UInt8) (q:bA):bA:=if q.mode=12 then {q with to:=q.fr+1+(lw l (q.fr+1).toNat:Int),op:=false} else q
def i6 (l:List UInt8) (q:bA):bA:=mz l (fP l.length q)
def aA (l:List UInt8):List bA:=(aE l l.length).map (i6 l)
theorem sc (q:bA):(fP n q).fr=q.fr:=by unfold fP;split<;>rfl
theorem Cl (q:bA):(mz l q).fr=q.fr:=by unfold mz;split<;>rfl
theorem uW (q:bA):(i6 l q).fr=q.fr:=by unfold i6;rw[Cl,sc]
def tX (F:bp) (p:Int):Nat:=if p∈aR F then (aR F).idxOf p+1 else 0
def eT (F:Nat→bp) (fr:Int) (n:Nat):Nat→Nat→bA→bA
  | 0,_,q=>q
  | m+1,k,q=>if tX (F k) fr=0 then {q with to:=k,op:=false} else eT F fr n m (k+1) {q with mode:=sJ ((F k).getD (n-1) (0,0)).1}
def Dm (n:Nat) (p:Int):List bA→Nat→Int→Int
  | [],_,u=>u
  | q::l,k,u=>Dm n p l (k+1) (if 1<n∧q.fr=p then (k:Int) else u)
def C5 (l:List UInt8) (f:Nat) (out:List bA):bA:=
  mz l (eT (FT l) f (tX (FT l (f+1)) f) (l.length-f) (f+1) ⟨0,f,l.length,Dm (tX (FT l (f+1)) f) ((aR (FT l (f+1))).getD (tX (FT l (f+1)) f-2) 0) out 0 (-1),true⟩)
def lC (l:List UInt8):Nat→List bA
  | 0=>[]
  | f+1=>lC l f++(if tX (FT l (f+1)) f=0 then [] else [C5 l f (lC l f)])
def gC (l:List UInt8):Nat→Nat→bA→bA
  | 0,_,q=>q
  | m+1,k,q=>gC l m (k+1) (ml (FT l k) k q)
theorem oT (l:List UInt8):∀(m a:Nat) (q:bA),gC l (m+1) a q=ml (FT l (a+m)) ((a+m:Nat):Int) (gC l m a q)
  | 0,a,q=>rfl
  | m+1,a,q=>by
    show gC l (m+1) (a+1) _=_;rw[oT l m (a+1)];rw[show a+1+m=a+(m+1) by omega];rfl
theorem uX (l:List UInt8):∀(m a:Nat) (q:bA),(gC l m a q).fr=q.fr
  | 0,_,_=>rfl
  | m+1,a,q=>by show (gC l m (a+1) _).fr=_;rw[uX l m,sM]
theorem oU (l:List UInt8):∀(m a:Nat) (q:bA),q.op=false→gC l m a q=q
  | 0,_,_,_=>rfl
  | m+1,a,q,h=>by
    show gC l m (a+1) _=_
    have:ml (FT l a) a q=q:=by unfold ml;rw[if_neg (by rw[h];simp)]
    rw[this,oU l m (a+1) q h]
theorem i5 {l:List α} {f g:α→List β} (h:∀x∈l,f x=g x):l.flatMap f=l.flatMap g:=by
  rw[List.flatMap_def,List.flatMap_def,List.map_congr_left h]
theorem nT (l:List UInt8):∀k,aE l k=(List.range k).flatMap fun f=>(im (FT l (f+1)) f (aE l f)).map (gC l (k-(f+1)) (f+2))
  | 0=>rfl
  | k+1=>by
    rw[List.range_succ,List.flatMap_append];show (aE l k).map _++_=_;congr 1
    ·conv=>lhs;rw[nT l k]
     rw[List.map_flatMap];refine i5 fun f hf=>?_
     have hfk:=List.mem_range.1 hf;rw[List.map_map];refine List.map_congr_left fun q _=>?_
     simp only[Function.comp];rw[show k+1-(f+1)=(k-(f+1))+1 by omega,oT,show f+2+(k-(f+1))=k+1 by omega];rfl
    ·simp only[List.flatMap_cons,List.flatMap_nil,List.append_nil];rw[Nat.sub_self];show _=List.map (fun q=>q) _;rw[List.map_id']
theorem lp:(aR (FT l k)).Nodup:=by rw[List.nodup_iff_pairwise_ne];exact(jz l k).1.imp (fun h=>by omega)
theorem lH {P:List Int} (h:P.Nodup) (hi:P[i]? = some p) (hj:P[j]? = some p):i=j:=by
  obtain⟨h1,h2⟩:=List.getElem?_eq_some_iff.1 hi;obtain⟨h3,h4⟩:=List.getElem?_eq_some_iff.1 hj;rw[List.nodup_iff_pairwise_ne] at h;rcases Nat.lt_trichotomy i j with e|e|e
  ·exact absurd (h2.trans h4.symm) (List.pairwise_iff_getElem.1 h i j h1 h3 e)
  ·exact e
  ·exact absurd (h4.trans h2.symm) (List.pairwise_iff_getElem.1 h j i h3 h1 e)
theorem gP (f n:Nat) (h0:(aR (FT l (f+1)))[n]? = some (f:Int)):∀k,f+1≤k→(f:Int)∈aR (FT l k)→(aR (FT l k))[n]? = some (f:Int):=by
  intro k hk
  induction k with
  | zero=>omega
  | succ k ih=>
    intro hm;by_cases e:k=f
    ·subst e;exact h0
    ·obtain⟨j,A,B,hF,hj,hA,hB⟩:=gX l k;have hmA:(f:Int)∈aR A:=by
       rw[hF,aR,List.map_append] at hm;rcases List.mem_append.1 hm with h|h
       ·exact h
       ·rcases hB with rfl|⟨c,rfl⟩
        ·cases h
        ·simp at h;omega
     have hmt:=hmA;rw[hA] at hmt;have ih':=ih (by omega) (List.mem_of_mem_take hmt);obtain⟨i,hi,hie⟩:=List.mem_take_iff_getElem.1 hmt;have hij:i=n:=lH (lp l k) (List.getElem?_eq_some_iff.2 ⟨by omega,hie⟩) ih';rw[hF,aR,List.map_append,List.getElem?_append_left (by
       have:=congrArg List.length hA
       simp[aR] at this ⊢;simp[aR] at hi;omega)]
     rw[show A.map (·.2)=aR A from rfl,hA,List.getElem?_take,if_pos (by omega)];exact ih'
theorem sd (h:(aR F).Nodup) (hi:F[i]? = some y):kV F y.2=some y.1:=by
  have hm:y.2∈aR F:=List.mem_map.2 ⟨y,List.mem_of_getElem? hi,rfl⟩;obtain⟨c,hc,hcm⟩:=nL hm;obtain⟨j,hj⟩:=List.mem_iff_getElem?.1 hcm;have e1:(aR F)[i]? = some y.2:=by rw[List.getElem?_map,hi];rfl
  have e2:(aR F)[j]? = some y.2:=by rw[List.getElem?_map,hj];rfl
  have:=lH h e1 e2
  subst this;rw[hi] at hj;injection hj with hj
  rw[hc,hj]
theorem gV:tX F p=0↔p∉aR F:=by unfold tX;split<;>simp_all
theorem zX (h:p∈aR F):(aR F)[tX F p-1]? = some p∧1≤tX F p:=by
  unfold tX;rw[if_pos h];refine⟨?_,by omega⟩;rw[Nat.add_sub_cancel,List.getElem?_eq_getElem (List.idxOf_lt_length_of_mem h)];exact congrArg some (List.getElem_idxOf (List.idxOf_lt_length_of_mem h))
theorem jg (l:List UInt8) (f n:Nat) (hn:∀k,f+1≤k→(f:Int)∈aR (FT l k)→(aR (FT l k))[n-1]? = some (f:Int)):∀(m k:Nat) (q:bA),q.op=true→q.fr=f→f+1≤k →
    eT (FT l) f n m k {q with to:=l.length}=fP l.length (gC l m k q)
  | 0,k,q,ho,hf,hk=>by unfold eT gC fP;rw[if_pos ho]
  | m+1,k,q,ho,hf,hk=>by
    unfold eT;by_cases hm:(f:Int)∈aR (FT l k)
    ·rw[if_neg (fun h=>gV.1 h hm)];have h1:=hn k hk hm;rw[List.getElem?_map] at h1
     cases hy:(FT l k)[n-1]? with
     | none=>rw[hy] at h1;cases h1
     | some y=>
       rw[hy] at h1;simp at h1;have h2:=sd (lp l k) hy;rw[h1] at h2;have hu:ml (FT l k) k q={q with mode:=sJ y.1}:=by unfold ml;rw[if_pos ho,hf,h2]
       have hg:((FT l k).getD (n-1) (0,0)).1=y.1:=by rw[List.getD_eq_getElem?_getD,hy];rfl
       rw[hg];show eT (FT l) f n m (k+1) {({q with mode:=sJ y.1}:bA) with to:=l.length}=fP l.length (gC l m (k+1) (ml (FT l k) k q));rw[hu];exact jg l f n hn m (k+1) {q with mode:=sJ y.1} ho hf (by omega)
    ·rw[if_pos (gV.2 hm)];have hu:ml (FT l k) k q={q with to:=k,op:=false}:=by unfold ml;rw[if_pos ho,hf,jV hm]
     show _=fP l.length (gC l m (k+1) (ml (FT l k) k q));rw[hu,oU _ _ _ _ rfl];rfl
theorem oZ (n:Nat) (p:Int):∀(l:List bA) (k:Nat) (u:Int),(1<n→p∉db l)→Dm n p l k u=u
  | [],_,_,_=>rfl
  | q::l,k,u,h=>by
    unfold Dm;rw[if_neg (fun hh=>h hh.1 (by simp[db,hh.2]))];exact oZ n p l (k+1) u (fun hn hm=>h hn (by simp only[db,List.map_cons,List.mem_cons];exact .inr hm))
theorem ud (n:Nat) (p:Int) (hn:1<n):∀(l:List bA) (k:Nat) (u:Int),(db l).Nodup→p∈db l→Dm n p l k u=((k+dj l p:Nat):Int)
  | [],_,_,_,h=>by simp[db] at h
  | q::l,k,u,hd,h=>by
    unfold Dm;simp only[db,List.map_cons,List.nodup_cons] at hd;by_cases e:q.fr=p
    ·rw[if_pos ⟨hn,e⟩,oZ n p l (k+1) k (fun _ hm=>hd.1 (by rw[e];exact hm))];simp[dj,db,List.idxOf_cons,e]
    ·rw[if_neg (fun hh=>e hh.2)];have hm:p∈db l:=by
       simp only[db,List.map_cons,List.mem_cons] at h;rcases h with h|h
       ·exact absurd h.symm e
       ·exact h
     rw[ud n p hn l (k+1) u hd.2 hm]
     have:dj (q::l) p=dj l p+1:=by
       simp only[dj,db,List.map_cons,List.idxOf_cons]
       have:(q.fr==p)=false:=by simpa using e
       rw[this];rfl
     rw[this];congr 1;omega
theorem jO (l:List UInt8):∀f,f≤l.length→lC l f=(List.range f).flatMap (fun f=>(im (FT l (f+1)) f (aE l f)).map fun q=>i6 l (gC l (l.length-(f+1)) (f+2) q))∧db (lC l f)=db (aE l f)
  | 0,_=>⟨rfl,rfl⟩
  | f+1,hf=>by
    obtain⟨ih,ihf⟩:=jO l f (by omega);have ci:=gU l f;obtain⟨j,A,B,hF,hj,hA,hB⟩:=gX l f;have hkP:(f:Int)∉aR (FT l f):=fun h=>by have:=(jz l f).2 _ h;omega
    have hAmem:∀p∈aR A,p∈aR (FT l f):=fun p hp=>by rw[hA] at hp;exact List.mem_of_mem_take hp
    rcases hB with rfl|⟨c,rfl⟩
    ·have hno:(f:Int)∉aR (FT l (f+1)):=by rw[hF,List.append_nil];exact fun h=>hkP (hAmem _ h)
     have hnew:im (FT l (f+1)) f (aE l f)=[]:=jm (fun p hp e=>hno (e▸hp));have e:lC l (f+1)=lC l f:=by show lC l f++_=_;rw[if_pos (gV.2 hno),List.append_nil]
     rw[e];refine⟨?_,?_⟩
     ·rw[List.range_succ,List.flatMap_append,←ih];simp[hnew]
     ·rw[eQ,hnew,ihf];simp[db]
    ·have hnew:=jl (k:=(f:Int)) (l:=aE l f) hF;have hyes:(f:Int)∈aR (FT l (f+1)):=by rw[hF];simp[aR]
     have hAl:(f:Int)∉aR A:=fun h=>hkP (hAmem _ h)
     have hn:tX (FT l (f+1)) f=A.length+1:=by
       unfold tX;rw[if_pos hyes,hF,aR,List.map_append,List.idxOf_append,if_neg hAl];simp
     have hidx:∀k,f+1≤k→(f:Int)∈aR (FT l k)→(aR (FT l k))[tX (FT l (f+1)) f-1]? = some (f:Int):=gP l f _ (zX hyes).1;have hup:Dm (tX (FT l (f+1)) f) ((aR (FT l (f+1))).getD (tX (FT l (f+1)) f-2) 0) (lC l f) 0 (-1)=wE (FT l (f+1)) (aE l f):=by
       rw[hn];unfold wE;rw[hF,List.dropLast_concat];rcases List.eq_nil_or_concat A with h|⟨G,y,h⟩
       ·subst h;rw[oZ _ _ _ _ _ (fun h=>by simp at h)];rfl
       ·have h':A=G++[y]:=by simpa using h
        have hyA:y.2∈aR A:=by rw[h'];simp[aR]
        rw[h'];simp only[List.getLast?_append,List.getLast?_singleton,Option.some_or];have hp:(aR ((G++[y])++[(c,(f:Int))])).getD ((G++[y]).length+1-2) 0=y.2:=by
          rw[List.getD_eq_getElem?_getD];simp only[aR,List.map_append,List.map_cons,List.map_nil,List.length_append,List.length_cons,List.length_nil];rw[List.getElem?_append_left (by simp),List.getElem?_append_right (by simp)];simp
        rw[hp,ud _ _ (by simp) _ _ _ (by rw[ihf,List.nodup_iff_pairwise_ne];exact ci.rise.imp (fun h=>by omega)) (by rw[ihf];exact ci.sub _ (hAmem _ hyA))];rw[Nat.zero_add];unfold dj;rw[ihf]
     have e:lC l (f+1)=lC l f++[i6 l (gC l (l.length-(f+1)) (f+2) ⟨sJ c,f,0,wE (FT l (f+1)) (aE l f),true⟩)]:=by
       show lC l f++_=_;rw[if_neg (fun h=>gV.1 h hyes)];congr 2;unfold C5 i6;congr 1;rw[hup,show l.length-f=(l.length-(f+1))+1 by omega];have hs:=jg l f _ hidx (l.length-(f+1)+1) (f+1) ⟨0,f,0,wE (FT l (f+1)) (aE l f),true⟩ rfl rfl (Nat.le_refl _);rw[hs];show fP _ (gC l (l.length-(f+1)) (f+2) (ml (FT l (f+1)) ((f+1:Nat):Int) ⟨0,f,0,wE (FT l (f+1)) (aE l f),true⟩))=_;congr 2;unfold ml;rw[if_pos rfl];have hfa:kV (FT l (f+1)) (f:Int)=some c:=sd (y:=(c,(f:Int))) (lp l (f+1)) (i:=A.length) (by rw[hF];simp);simp only[hfa]
     rw[e];refine⟨?_,?_⟩
     ·rw[List.range_succ,List.flatMap_append,←ih];simp[hnew]
     ·rw[eQ,hnew,db,List.map_append,show (lC l f).map (·.fr)=_ from ihf];simp only[List.map_cons,List.map_nil,uW,uX]
theorem tv:lC l l.length=aA l:=by
  unfold aA;rw[(jO l l.length (Nat.le_refl _)).1];conv=>rhs;rw[nT]
  rw[List.map_flatMap];refine i5 fun f _=>?_
  rw[List.map_map];rfl
def sK (st:bp):Prop:=∀y∈st,y.1.toNat≠76
theorem sK.tail (h:sK st):sK st.tail:=fun y hy=>h y (List.mem_of_mem_tail hy)
theorem sK.cons {st:bp} {c:UInt8} {p:Int} (h:sK st) (hc:c.toNat≠76):sK ((c,p)::st):=by
  intro y hy;rcases List.mem_cons.1 hy with rfl|hy
  ·exact hc
  ·exact h y hy
theorem sK.of_cons (h:sK (y::st)):sK st:=fun z hz=>h z (List.mem_cons_of_mem _ hz)
def DR (a:Int) (x:bp×Bool):Prop:=sK x.1∨∃d q r,x.1=((76:UInt8),a)::(d,q)::r∧sK ((d,q)::r)∧(d.toNat≠88∧d.toNat≠79∧d.toNat≠69)∧(d.toNat=84∨d.toNat=67∨d.toNat=80→x.2=false)
theorem td (q:Int) (r:bp) (f:Bool) (b:UInt8) (a:Int) (h:sK ((c,q)::r)) (hc:c.toNat≠88∧c.toNat≠79∧c.toNat≠69):DR a (aj ((c,q)::r) f c b a):=by
  unfold aj
  repeat' (refine ax (DR a) (fun _=>?_) (fun _=>?_))
  all_goals first
    | exact .inl h
    | exact .inl h.tail
    | exact .inr ⟨c,q,r,rfl,h,hc,fun _=>rfl⟩
    | exact .inl (h.cons (by decide))
theorem ku (q:Int) (r:bp) (f:Bool) (b:UInt8) (a:Int) (h:sK ((c,q)::r)) (h1:c.toNat≠79) (h2:c.toNat≠69):DR a (aa ((c,q)::r) f c b a):=by
  unfold aa;refine ax (DR a) (fun h3=>td c q r f b a h ⟨by omega,h1,h2⟩) (fun h3=>?_);refine ax (DR a) (fun _=>.inl h.tail) (fun h4=>?_);have hd:c.toNat≠88∧c.toNat≠79∧c.toNat≠69:=⟨h4,h1,h2⟩
  repeat' (refine ax (DR a) (fun _=>?_) (fun _=>?_))
  all_goals first
    | exact .inl h
    | exact .inl h.tail
    | exact .inr ⟨c,q,r,rfl,h,hd,fun hh=>absurd hh h3⟩
    | exact .inl (h.cons (by decide))
    | exact .inl (h.of_cons.cons (by decide))
theorem Bp (st:bp) (f:Bool) (b:UInt8) (a0 a:Int) (h:DR a0 (st,f)):DR a (bJ st f b a):=by
  rcases h with h|⟨d,q,r,he,h,hd,hf⟩
  ·match st,h with
   | [],h=>exact .inl h
   | (c,p)::r,h=>
     have hc:c.toNat≠76:=h (c,p) (List.mem_cons_self ..);unfold bJ;simp only;rw[if_neg hc];refine ax (DR a) (fun _=>?_) (fun h1=>?_)
     ·exact ax (DR a) (fun _=>.inl (sK.cons h.of_cons (by decide))) (fun _=>ku 67 p r f b a (sK.cons h.of_cons (by decide)) (by decide) (by decide))
     ·refine ax (DR a) (fun _=>?_) (fun h2=>ku c p r f b a h h1 h2);exact ax (DR a) (fun _=>.inl h.of_cons) (fun _=>ku 65 p r f b a (sK.cons h.of_cons (by decide)) (by decide) (by decide))
  ·simp only at he;subst he;unfold bJ;simp only;rw[if_pos (by decide)];refine ax (DR a) (fun _=>.inl (h.cons (by decide))) (fun _=>?_);refine ax (DR a) (fun _=>?_) (fun _=>?_)
   ·exact ax (DR a) (fun _=>.inl (h.cons (by decide))) (fun _=>.inl (h.cons (by decide)))
   ·exact ax (DR a) (fun _=>.inl h) (fun _=>ku d q r f b a h hd.2.1 hd.2.2)
theorem C2 (l:List UInt8):∀k:Nat,DR ((k:Int)-1) (cV l k)
  | 0=>.inl (by intro y hy;simp[cV] at hy;rw[hy];decide)
  | k+1=>by
    have:=Bp (cV l k).1 (cV l k).2 (l.getD k 0) _ k (C2 l k)
    rw[show ((k+1:Nat):Int)-1=k by omega];exact this
def P3 (ps:List Int) (a:Int) (x:bp×Bool):Prop:=aR x.1=ps∨aR x.1=a::ps∨aR x.1=ps.tail
theorem P3.push {a:Int} {x:bp×Bool} (h:P3 ps a x) (e:aR x.1=a::X) (ha:a∉ps):X=ps:=by
  rcases h with h|h|h
  ·rw[h] at e;exact absurd (e▸List.mem_cons_self ..) ha
  ·rw[h] at e;exact(List.cons.inj e).2.symm
  ·rw[h] at e;exact absurd (List.mem_of_mem_tail (e▸List.mem_cons_self ..)) ha
theorem uh (p:UInt8→Bool):∀(m:List UInt8) (j:Nat),j<(m.takeWhile p).length→p (m.getD j 0)=true
  | [],j,h=>by simp at h
  | c::m,0,h=>by
    by_cases hc:p c=true
    ·exact hc
    ·rw[List.takeWhile_cons_of_neg hc] at h;simp at h
  | c::m,j+1,h=>by
    by_cases hc:p c=true
    ·rw[List.takeWhile_cons_of_pos hc] at h;exact uh p m j (by simpa using h)
    ·rw[List.takeWhile_cons_of_neg hc] at h;simp at h
def cq (l:List UInt8) (a k:Nat):Bool:=lQ (cV (l.drop a) k).1 (l.getD (a+k) 0)
def fY (l:List UInt8) (a:Nat):Nat:=fZ (cq l a) (l.length-a) 0
def jX (c:UInt8):List UInt8:=
  if c.toNat=83 then [39] else if c.toNat=68 then [34] else if c.toNat=66 then [96] else if c.toNat=86∨c.toNat=73 then [125]
  else if c.toNat=67∨c.toNat=79∨c.toNat=80∨c.toNat=82∨c.toNat=69 then [41] else if c.toNat=65 then [41,41] else if c.toNat=88∨c.toNat=35 then [10] else []
theorem sA:(jX c).length≤2:=by
  unfold jX;repeat' split
  all_goals simp
def F4 (st:bp):List UInt8:=st.flatMap fun x=>jX x.1
end Go.Proofs.YtfagdpfgifgnoaaGreatDoor
