/- Forests of nodes, and their signs: plain. -/
import Derived.Test.YtlbfdbinaekjoaaGreatDoorPl13
import Derived.Test.YtlbfdbinaekjoaaGreatDoorGx13
import Derived.Test.YtlbfdbinaekjoaaGreatDoorRz14
namespace Go.Proofs.YtlbfdbinaekjoaaGreatDoor
set_option linter.unusedVariables false
set_option linter.unusedSimpArgs false
set_option maxRecDepth 100000
inductive Tfr
  | nil
  | cons (k x y:Nat) (ks r:Tfr)
def Tfr.sz:Tfr→Nat
  | .nil=>0
  | .cons _ _ _ ks r=>1+ks.sz+r.sz
def Tfr.fl:Tfr→Nat→Int→List Nd
  | .nil,_,_=>[]
  | .cons k x y ks r,b,u=>⟨k,x,y,u⟩::(ks.fl (b+1) b++r.fl (b+1+ks.sz) u)
theorem Tfr.fl_len:∀(f:Tfr) (b:Nat) (u:Int),(f.fl b u).length=f.sz
  | .nil,_,_=>rfl
  | .cons k x y ks r,b,u=>by simp[Tfr.fl,Tfr.sz,Tfr.fl_len ks,Tfr.fl_len r];omega
def Ps.add (s:Ps) (y:Nat) (f:Tfr):Ps:=⟨y,s.l++f.fl s.l.length s.up,s.up,s.deep⟩
theorem add_cons (s:Ps) (b b' y k x:Nat) (sub r:Tfr):(s.add b (.cons k x b' sub .nil)).add y r=s.add y (.cons k x b' sub r):=by
  unfold Ps.add
  simp[Tfr.fl,Tfr.fl_len]
  congr 1
  omega
def ltr (k:Nat):UInt8:=([63,80,76,65,73,83,88,87,82,66,85,70,72,79,67,84,78,69,77]:List UInt8).getD k 63
def upr (c:UInt8):Bool:=decide (65≤c)&&decide (c≤90)
def wsg:List UInt8:=[33,123,125,105,116,101,108,102,119,100,103,114,107,99,122,120]
def asg:List UInt8:=wsg++[0,110,63,97,111,121,60,38,59,124,40,41,35]
def fs (c:UInt8):List UInt8:=
  if c=76∨c=65∨c=73 then [33,120,60,35,123,40,105,119,114,99] else if c=87∨c=88 then wsg else if c=82 then [60,35] else if c=84 then 40::wsg
  else if c=83 then [120,60,35] else if c=66 then [123] else if c=85 then [40] else if c=70 then [105] else if c=72 then [119] else if c=79 then [114] else if c=67 then [99] else if c=78 then [120] else [c]
def Rx.fst (r:Rx) (fo:List UInt8):List UInt8:=r.hd.flatMap fs++(if r.nul=true then fo else [])
def fol:Nat→List UInt8
  | 2=>[0,125,41,116,101,108,102,100,103,121,122]
  | 3=>[0,125,41,116,101,108,102,100,103,121,122,59,38,110]
  | 4=>[0,125,41,116,101,108,102,100,103,121,122,59,38,110,97,111]
  | 6|7|8=>asg
  | 15=>[121,122]
  | _=>[0,125,41,116,101,108,102,100,103,121,122,59,38,110,97,111,124]
theorem ite_in {a b:UInt8} {l:List UInt8} {p:Prop} [Decidable p] (h:a∈l) (k:b∈l):(if p then a else b)∈l:=by
  by_cases hp:p
  ·rw[if_pos hp];exact h
  ·rw[if_neg hp];exact k
theorem wsgn_in (s:List UInt8):wsgn s∈wsg:=by
  unfold wsgn
  by_cases h:s=[33]∨s=[123]∨s=[125]
  ·rw[if_pos h]
   rcases h with rfl|rfl|rfl<;>decide
  ·rw[if_neg h]
   repeat' (first|decide|refine ite_in ?_ ?_)
theorem osgn_in (k:Nat):osgn k∈asg:=by
  unfold osgn
  split<;>decide
theorem sg_in (F:List Lf) (i:Nat):sg F i∈asg:=by
  unfold sg
  split
  ·unfold sgnL
   repeat' split
   all_goals (try decide)
   ·exact osgn_in _
   ·exact List.mem_append_left _ (wsgn_in _)
  ·decide
theorem sg_low (F:List Lf) (i:Nat):upr (sg F i)=false:=by
  have h:∀c∈asg,upr c=false:=by decide
  exact h _ (sg_in F i)
theorem ltr_up {k:Nat} (h:1≤k∧k≤18):upr (ltr k)=true:=by
  have:∀k,k<19→1≤k→upr (ltr k)=true:=by decide
  exact this k (by omega) h.1
theorem ltr_inj {k j:Nat} (hk:1≤k∧k≤18) (hj:1≤j∧j≤18) (h:ltr k=ltr j):k=j:=by
  have:∀k,k<19→∀j,j<19→1≤k→1≤j→ltr k=ltr j→k=j:=by decide
  exact this k (by omega) j (by omega) hk.1 hj.1 h
theorem isW_sg {F:List Lf} {i:Nat} (h:isW F i=true):sg F i=wsgn (tx F i):=by
  unfold isW at h
  unfold sg tx
  split at h
  ·rename_i x hx
   have h6:x.kd=6:=by simpa using h
   simp[sgnL,h6]
  ·cases h
end Go.Proofs.YtlbfdbinaekjoaaGreatDoor
namespace Go.Proofs.YtlbfdbinaekjoaaGreatDoor
set_option linter.unusedVariables false
set_option linter.unusedSimpArgs false
set_option maxRecDepth 100000
noncomputable section
def runK (F:List Lf) (q k:Nat) (s:Ps):Ps:=
  if k=2 then nodeP 2 (lstF F q) s else if k=3 then nodeP 3 (andP F (lstF F (q-1))) s else if k=4 then nodeP 4 (pipInP F (lstF F (q-1))) s
  else if k=6∨k=7 then leafP k s else if k=8 then redirP F s else if k=15 then nodeP 15 (itemP F (lstF F (q-1))) s else comP F (lstF F (q-1)) s
structure NodeOK (F:List Lf) (d k x y:Nat) (sub:Tfr):Prop where
  hd:sg F x∈fs (ltr k)
  pi:k=2∨k=3∨k=4→∀s:Ps,s.p=x→s.deep=d→pipeB F s=true
  cm:ltr k∈cX→∀s:Ps,s.p=x→s.deep=d→cmdB F s=true∧(k≠5→k≠16→compB F s=true)
  wd:k=6∨k=7→isW F x=true∧y=x+1∧(k=6→asgT (tx F x)=true)
  rd:k=8→∀s:Ps,s.p=x→redirB F s=true
  it:k=15→∀s:Ps,s.p=x→itemB F s=true
  run:∀(q:Nat) (s:Ps),s.p=x→s.deep=d→F.length<q+x→sg F y∈fol k→runK F q k s=s.add y (.cons k x y sub .nil)
def AllOK (F:List Lf) (d:Nat):Tfr→Prop
  | .nil=>True
  | .cons k x y ks r=>(1≤k∧k≤18)∧(k≠1→NodeOK F d k x y ks)∧AllOK F d r
inductive Wk (F:List Lf) (y:Nat):Nat→Tfr→List UInt8→Prop
  | nil:Wk F y y .nil []
  | leaf {p:Nat} {ks:Tfr} {row:List UInt8}:p<y→Wk F y (p+1) ks row→Wk F y p ks (sg F p::row)
  | kid {p b k:Nat} {sub r:Tfr} {row:List UInt8}:p<b→b≤y→Wk F y b r row→Wk F y p (.cons k p b sub r) (ltr k::row)
theorem Wk.le {F:List Lf} {y p:Nat} {ks:Tfr} {row:List UInt8} (h:Wk F y p ks row):p≤y:=by
  cases h<;>omega
structure At (F:List Lf) (q y:Nat) (fo:List UInt8) (T:Ps) (G:Tfr→Prop) (s:Ps) (R:Rx):Prop where
  hq:F.length<q+s.p
  hy:y≤F.length
  hfo:sg F y∈fo
  ex:∃ks row,Rm R row∧Wk F y s.p ks row∧AllOK F T.deep ks∧T=s.add y ks∧G ks
def gT (_:Tfr):Prop:=True
section
variable {F:List Lf} {q y:Nat} {fo:List UInt8} {T:Ps} {G:Tfr→Prop} {s:Ps} {R:Rx}
theorem At.gen (h:At F q y fo T G s R):At F q y fo T gT s R:=⟨h.hq,h.hy,h.hfo,by obtain⟨ks,row,a,b,c,d,e⟩:=h.ex;exact⟨ks,row,a,b,c,d,trivial⟩⟩
theorem At.deq (h:At F q y fo T G s R):s.deep=T.deep:=by obtain⟨ks,row,a,b,c,d,e⟩:=h.ex;rw[d];rfl
theorem At.le (h:At F q y fo T G s R):s.p≤y:=by obtain⟨ks,row,a,b,c,d,e⟩:=h.ex;exact b.le
theorem At.leF (h:At F q y fo T G s R):s.p≤F.length:=Nat.le_trans h.le h.hy
theorem At.w {q':Nat} (h:At F q y fo T G s R) (hq:F.length<q'+s.p):At F q' y fo T G s R:=⟨hq,h.hy,h.hfo,h.ex⟩
theorem At.re {R':Rx} (h:At F q y fo T G s R) (hR:∀w,Rm R w→Rm R' w):At F q y fo T G s R':=⟨h.hq,h.hy,h.hfo,by obtain⟨ks,row,a,b⟩:=h.ex;exact⟨ks,row,hR _ a,b⟩⟩
theorem At.end' (h:At F q y fo T G s .eps):s=T∧s.p=y:=by
  obtain⟨ks,row,a,b,c,d,e⟩:=h.ex
  cases a
  obtain⟨p,l,u,dp⟩:=s
  cases b
  rw[d]
  simp[Ps.add,Tfr.fl]
theorem fs_low {c:UInt8} (h:upr c=false):fs c=[c]:=by
  unfold fs
  repeat' rw[if_neg]
  all_goals (intro e;revert h;first|(subst e;decide)|(rcases e with rfl|rfl|rfl<;>decide)|(rcases e with rfl|rfl<;>decide))
theorem At.fst (h:At F q y fo T G s R) (h0:(80:UInt8)∉R.hd):sg F s.p∈R.fst fo:=by
  obtain⟨ks,row,a,b,c,d,e⟩:=h.ex
  unfold Rx.fst
  rcases a.hd with ⟨rfl,hn⟩|⟨c0,v,rfl,hc⟩
  ·generalize hp:s.p=p at b
   cases b
   rw[hn]
   simp only[if_true]
   exact List.mem_append_right _ h.hfo
  ·refine List.mem_append_left _ (List.mem_flatMap.2 ⟨c0,hc,?_⟩)
   generalize hp:s.p=p at b
   cases b with
   | leaf h1 h2=>rw[fs_low (sg_low F p)];exact List.mem_singleton.2 rfl
   | @kid _ b k sub r _ h1 h2 h3=>exact(c.2.1 fun e=>h0 (by rw[e] at hc;exact hc)).hd
theorem At.ch {cs:List UInt8} (h:At F q y fo T G s (.cat (.ch cs) R)) (hl:cs.all (fun c => !upr c)=true):sg F s.p∈cs∧s.p<F.length∧At F q y fo T G (nextP s) R:=by
  obtain⟨ks,row,a,b,c,d,e⟩:=h.ex
  obtain⟨u,v,rfl,h1,h2⟩:=a.cat_inv
  obtain⟨c0,hc,rfl⟩:=h1.ch_inv
  have hlo:upr c0=false:=by have:=List.all_eq_true.1 hl c0 hc;simpa using this
  have hq:=h.hq
  have hy:=h.hy
  generalize hp:s.p=p at b
  rw[List.singleton_append] at b
  generalize hr:c0::v=row at b
  cases b with
  | nil=>cases hr
  | leaf h3 h4=>
    cases hr
    refine⟨hc,by omega,⟨?_,hy,h.hfo,ks,v,h2,?_,c,d,e⟩⟩
    ·show F.length<q+(s.p+1);omega
    ·show Wk F y (s.p+1) ks v;rw[hp];exact h4
  | kid h3 h4 h5=>
    cases hr
    rw[ltr_up c.1] at hlo
    cases hlo
theorem At.kid {cs:List UInt8} (h:At F q y fo T G s (.cat (.ch cs) R)) (hu:cs.all (fun c=>upr c&&c != 80)=true) (h0:(80:UInt8)∉R.hd) :
    ∃(k b:Nat) (sub r:Tfr),ltr k∈cs∧(1≤k∧k≤18)∧s.p<b∧b≤F.length∧NodeOK F T.deep k s.p b sub∧G (.cons k s.p b sub r)∧sg F b∈R.fst fo∧∀G':Tfr→Prop,G' r→At F q y fo T G' (s.add b (.cons k s.p b sub .nil)) R:=by
  obtain⟨ks,row,a,b,c,d,e⟩:=h.ex
  obtain⟨u,v,rfl,h1,h2⟩:=a.cat_inv
  obtain⟨c0,hc,rfl⟩:=h1.ch_inv
  have hup:upr c0=true∧c0≠80:=by have:=List.all_eq_true.1 hu c0 hc;simpa using this
  have hq:=h.hq
  have hy:=h.hy
  generalize hp:s.p=p at b
  rw[List.singleton_append] at b
  generalize hr:c0::v=row at b
  cases b with
  | nil=>cases hr
  | leaf h3 h4=>
    cases hr
    rw[sg_low] at hup
    cases hup.1
  | @kid _ b k sub r _ h3 h4 h5=>
    cases hr
    have hA:∀G':Tfr→Prop,G' r→At F q y fo T G' (s.add b (.cons k p b sub .nil)) R:=fun G' hG=>⟨by show F.length<q+b;omega,hy,h.hfo,r,v,h2,h5,c.2.2,by rw[add_cons];exact d,hG⟩
    exact⟨k,b,sub,r,hc,c.1,by omega,by omega,by exact c.2.1 fun e=>hup.2 (by rw[e];rfl),e,(hA gT trivial).fst h0,hA⟩
theorem At.alt {a b:Rx} (h:At F q y fo T G s (.cat (.alt a b) R)):At F q y fo T G s (a.app R)∨At F q y fo T G s (b.app R):=by
  obtain⟨ks,row,m,w,c⟩:=h.ex
  obtain⟨u,v,rfl,h1,h2⟩:=m.cat_inv
  rcases h1.alt_inv with h1|h1
  ·exact .inl ⟨h.hq,h.hy,h.hfo,ks,_,Rm.app _ _ _ _ h1 h2,w,c⟩
  ·exact .inr ⟨h.hq,h.hy,h.hfo,ks,_,Rm.app _ _ _ _ h1 h2,w,c⟩
theorem At.star {a:Rx} (h:At F q y fo T G s (.cat (.star a) R)):At F q y fo T G s R∨At F q y fo T G s (a.app (.cat (.star a) R)):=by
  obtain⟨ks,row,m,w,c⟩:=h.ex
  obtain⟨u,v,rfl,h1,h2⟩:=m.cat_inv
  rcases h1.star_inv with rfl|⟨u1,u2,rfl,h3,h4⟩
  ·exact .inl ⟨h.hq,h.hy,h.hfo,ks,_,h2,w,c⟩
  ·refine .inr ⟨h.hq,h.hy,h.hfo,ks,u1++(u2++v),Rm.app _ _ _ _ h3 (.cat h4 h2),by rw[←List.append_assoc];exact w,c⟩
theorem Rm.more {cs:List UInt8} {w:List UInt8} (h:Rm (.cat (.ch cs) (.cat (.star (.ch cs)) R)) w):Rm (.cat (.star (.ch cs)) R) w:=by
  obtain⟨u,v,rfl,h1,h2⟩:=h.cat_inv
  obtain⟨u1,v1,rfl,h3,h4⟩:=h2.cat_inv
  rw[←List.append_assoc]
  exact .cat (.s1 h1 h3) h4
theorem loop_gen {c:Ps→Ps×Bool} {B:Nat} (hc:∀s,s.p≤F.length→LC F.length B s (c s)) {I J:Ps→Prop} (h:∀s,I s→s.p≤F.length∧(((c s).2=true∧I (c s).1)∨((c s).2=false∧J (c s).1))):∀m s,F.length-s.p=m→I s→J (loopP F.length c s):=by
  intro m
  induction m using Nat.strongRecOn with
  | _ m ih=>
    intro s hm hI
    obtain⟨hp,hw⟩:=h s hI
    rw[LC.eq hc s hp]
    rcases hw with ⟨h1,h2⟩|⟨h1,h2⟩
    ·rw[if_pos h1]
     have h3:=(hc s hp).1 h1
     have h4:=h3.1.N
     have h5:=h3.2
     exact ih _ (by omega) _ rfl h2
    ·rw[h1,if_neg (by decide)]
     exact h2
theorem comes_yes {cs:List UInt8} (h:sg F s.p∈cs):comes F cs s=true:=by unfold comes;simpa using h
theorem comes_no {cs l:List UInt8} (h:sg F s.p∈l) (hd:l.all (fun c => !cs.contains c)=true):comes F cs s=false:=by
  unfold comes
  have:=List.all_eq_true.1 hd _ h
  simpa using this
theorem At.lines (h:At F q y fo T G s (.cat nlX R)) (h0:(80:UInt8)∉R.hd) (hf:(R.fst fo).all (fun c => !([110]:List UInt8).contains c)=true):At F q y fo T G (linesP F s) R:=by
  refine loop_gen (F:=F) lines_c (I:=fun s=>At F q y fo T G s (.cat nlX R)) (J:=fun s=>At F q y fo T G s R) (fun s h=>⟨h.leF,?_⟩) _ s rfl h
  rcases h.star with h|h
  ·have:=comes_no (h.fst h0) hf
   rw[this]
   exact .inr ⟨rfl,h⟩
  ·obtain⟨h1,h2,h3⟩:=At.ch (R:=.cat nlX R) h (by decide)
   have:=comes_yes h1
   rw[if_pos this]
   exact .inl ⟨rfl,h3⟩
theorem At.take {cs:List UInt8} (h:At F q y fo T G s (.cat (.alt .eps (.ch cs)) R)) (hl:cs.all (fun c => !upr c)=true) (h0:(80:UInt8)∉R.hd) (hf:(R.fst fo).all (fun c => !cs.contains c)=true):At F q y fo T G (takeP F cs s) R:=by
  unfold takeP
  rcases h.alt with h|h
  ·rw[comes_no (h.fst h0) hf]
   exact h
  ·obtain⟨h1,h2,h3⟩:=At.ch (R:=R) h hl
   rw[comes_yes h1]
   exact h3
theorem At.want {c:UInt8} (h:At F q y fo T G s (.cat (.ch [c]) R)) (hl:upr c=false):At F q y fo T G (wantP F c s) R:=by
  obtain⟨h1,h2,h3⟩:=h.ch (by simp[hl])
  unfold wantP
  rw[comes_yes h1]
  exact h3
theorem At.next {c:UInt8} (h:At F q y fo T G s (.cat (.ch [c]) R)) (hl:upr c=false):sg F s.p=c∧s.p<F.length∧At F q y fo T G (nextP s) R:=by
  obtain⟨h1,h2,h3⟩:=h.ch (by simp[hl])
  exact⟨by simpa using h1,h2,h3⟩
theorem At.word (h:At F q y fo T G s (.cat (.ch [87]) R)) (h0:(80:UInt8)∉R.hd):∃sub r,isW F s.p=true∧G (.cons 7 s.p (s.p+1) sub r)∧wordP F s=leafP 7 s∧(leafP 7 s).p=s.p+1∧∀G':Tfr→Prop,G' r→At F q y fo T G' (leafP 7 s) R:=by
  obtain⟨k,b,sub,r,h1,h2,h3,hb,h4,h5,h6,h7⟩:=h.kid (by decide) h0
  have hk:k=7:=ltr_inj h2 (by decide) (List.mem_singleton.1 h1)
  subst hk
  obtain⟨w1,w2,_⟩:=h4.wd (.inr rfl)
  subst w2
  have:=h4.run q s rfl h.deq h.hq (sg_in F _)
  have e:leafP 7 s=s.add (s.p+1) (.cons 7 s.p (s.p+1) sub .nil):=this
  refine⟨sub,r,w1,h5,by unfold wordP;rw[if_pos w1],rfl,?_⟩
  rw[e]
  exact h7
theorem At.word' (h:At F q y fo T G s (.cat (.ch [87]) R)) (h0:(80:UInt8)∉R.hd):At F q y fo T gT (wordP F s) R∧(wordP F s).p=s.p+1:=by
  obtain⟨sub,r,h1,h2,h3,h4,h5⟩:=h.word h0
  rw[h3]
  exact⟨h5 gT trivial,h4⟩
theorem At.redir (h:At F q y fo T G s (.cat (.ch [82]) R)) (h0:(80:UInt8)∉R.hd):redirB F s=true∧At F q y fo T gT (redirP F s) R:=by
  obtain⟨k,b,sub,r,h1,h2,h3,hb,h4,h5,h6,h7⟩:=h.kid (by decide) h0
  have hk:k=8:=ltr_inj h2 (by decide) (List.mem_singleton.1 h1)
  subst hk
  have:=h4.run q s rfl h.deq h.hq (sg_in F _)
  have e:redirP F s=_:=this
  refine⟨h4.rd rfl s rfl,?_⟩
  rw[e]
  exact h7 gT trivial
theorem redir_no {l:List UInt8} (h:sg F s.p∈l) (hd:l.all (fun c => !([60,35]:List UInt8).contains c)=true):redirB F s=false:=by
  have:=List.all_eq_true.1 hd _ h
  unfold redirB
  simp at this
  simp[this]
theorem At.redirs (h:At F q y fo T gT s (.cat rsX R)) (h0:(80:UInt8)∉R.hd) (hf:(R.fst fo).all (fun c => !([60,35]:List UInt8).contains c)=true):At F q y fo T gT (redirsP F s) R:=by
  refine loop_gen (F:=F) redirs_c (I:=fun s=>At F q y fo T gT s (.cat rsX R)) (J:=fun s=>At F q y fo T gT s R) (fun s h=>⟨h.leF,?_⟩) _ s rfl h
  rcases h.star with h|h
  ·rw[redir_no (h.fst h0) hf]
   exact .inr ⟨rfl,h⟩
  ·obtain⟨h1,h2⟩:=At.redir (R:=.cat rsX R) h (by simpa [Rx.hd,rsX,Rx.nul] using h0)
   rw[if_pos h1]
   exact .inl ⟨rfl,h2⟩
theorem pipe_no {l:List UInt8} (h:sg F s.p∈l) (hd:l.all (fun c => !([33,120,60,35,123,40,105,119,114,99]:List UInt8).contains c)=true):pipeB F s=false:=by
  have:=List.all_eq_true.1 hd _ h
  unfold pipeB cmdB compB comes redirB
  simp at this
  simp[this]
theorem At.list (h:At F q y fo T G s (.cat (.ch [76]) R)) (h0:(80:UInt8)∉R.hd) (hf:(R.fst fo).all (fun c=>(fol 2).contains c)=true):pipeB F s=true∧At F q y fo T gT (nodeP 2 (lstF F q) s) R:=by
  obtain⟨k,b,sub,r,h1,h2,h3,hb,h4,h5,h6,h7⟩:=h.kid (by decide) h0
  have hk:k=2:=ltr_inj h2 (by decide) (List.mem_singleton.1 h1)
  subst hk
  have:=h4.run q s rfl h.deq h.hq (by have:=List.all_eq_true.1 hf _ h6;simpa using this)
  have e:nodeP 2 (lstF F q) s=_:=this
  refine⟨h4.pi (.inl rfl) s rfl h.deq,?_⟩
  rw[e]
  exact h7 gT trivial
theorem At.body (h:At F q y fo T G s (.cat nlX (.cat (.ch [76]) R))) (h0:(80:UInt8)∉R.hd) (hf:(R.fst fo).all (fun c=>(fol 2).contains c)=true):At F q y fo T gT (bodyP F (lstF F q) s) R:=by
  have h1:=h.lines (by simp[Rx.hd,Rx.nul]) (by simp[Rx.fst,Rx.hd,Rx.nul];decide)
  obtain⟨h2,h3⟩:=h1.list h0 hf
  unfold bodyP
  rw[if_pos h2]
  exact h3
theorem At.com {cs:List UInt8} (h:At F q y fo T G s (.cat (.ch cs) R)) (hcs:cs.all (fun c=>cX.contains c)=true) (h0:(80:UInt8)∉R.hd) (hf:(R.fst fo).all (fun c=>(fol 5).contains c)=true):cmdB F s=true∧(cs.contains 83=false→cs.contains 78=false→compB F s=true)∧At F q y fo T gT (comP F (lstF F (q-1)) s) R:=by
  have hup:∀c∈cX,upr c=true∧c≠80:=by decide
  have hin:∀c∈cs,c∈cX:=fun c hc=>by have:=List.all_eq_true.1 hcs c hc;simpa using this
  obtain⟨k,b,sub,r,h1,h2,h3,hb,h4,h5,h6,h7⟩:=h.kid (List.all_eq_true.2 fun c hc=>by have:=hup c (hin c hc);simpa using this) h0
  have hk:∀k,k<19→ltr k∈cX→fol k=fol 5∧k≠2∧k≠3∧k≠4∧k≠6∧k≠7∧k≠8∧k≠15:=by decide
  obtain⟨e1,n2,n3,n4,n6,n7,n8,n15⟩:=hk k (by omega) (hin _ h1)
  have hr:=h4.run q s rfl h.deq h.hq (by have:=List.all_eq_true.1 hf _ h6;rw[e1];simpa using this)
  have e:comP F (lstF F (q-1)) s=s.add b (.cons k s.p b sub .nil):=by
    unfold runK at hr
    rw[if_neg n2,if_neg n3,if_neg n4,if_neg (by omega),if_neg n8,if_neg n15] at hr
    exact hr
  obtain⟨c1,c2⟩:=h4.cm (hin _ h1) s rfl h.deq
  refine⟨c1,fun a b=>c2 ?_ ?_,?_⟩
  ·rintro rfl;simp at a;exact a h1
  ·rintro rfl;simp at b;exact b h1
  ·rw[e];exact h7 gT trivial
end
end
end Go.Proofs.YtlbfdbinaekjoaaGreatDoor
namespace Go.Proofs.YtlbfdbinaekjoaaGreatDoor
set_option linter.unusedVariables false
set_option linter.unusedSimpArgs false
set_option maxRecDepth 100000
noncomputable section
section
variable {F:List Lf} {q y:Nat} {fo:List UInt8} {T:Ps} {G:Tfr→Prop} {s:Ps} {R:Rx}
def fstW (F:List Lf):Tfr→List UInt8
  | .nil=>[]
  | .cons k x _ _ r=>if k=7 then tx F x else fstW F r
def nst (k:Nat):Nat:=if 9≤k∧k≤14∨k=16 then 1 else 0
structure FitsN (F:List Lf) (d k x y:Nat) (ks:Tfr):Prop where
  hk:1≤k∧k≤18
  xy:k≠1→x<y
  yF:y≤F.length
  wd:k=6∨k=7→y=x+1∧ks=.nil∧isW F x=true∧(k=6→asgT (tx F x)=true)
  fm:k≠6→k≠7→∃row,Rm (frm k) row∧Wk F y x ks row
  dp:nst k=1→d<200
  sm:k=5→(isW F x=true→wsgn (tx F x)=120)∧asgT (fstW F ks)=false∧isW F y=false
  fn:k=16→nameT (fstW F ks)=true∧wsgn (fstW F ks)=120
  fr:k=13→nameT (fstW F ks)=true
  it:k=15→sg F x=40∨wsgn (fstW F ks)≠122
def Der (F:List Lf):Nat→Tfr→Prop
  | _,.nil=>True
  | d,.cons k x y ks r=>FitsN F d k x y ks∧Der F (d+nst k) ks∧Der F d r
def inn (s:Ps) (k d:Nat):Ps:=⟨s.p,s.l++[⟨k,s.p,0,s.up⟩],(s.l.length:Int),d⟩
theorem node_run {k:Nat} {f:Ps→Ps} {ks:Tfr} (h:f (inn s k s.deep)=(inn s k s.deep).add y ks):nodeP k f s=s.add y (.cons k s.p y ks .nil):=by
  have e:nodeP k f s={f (inn s k s.deep) with up:=s.up,l:=ndTo (f (inn s k s.deep)).l s.l.length (f (inn s k s.deep)).p}:=rfl
  rw[e,h]
  simp only[Ps.add,inn,List.append_assoc,List.singleton_append,ndTo_at,Tfr.fl,List.append_nil]
  simp
theorem nest_run {k:Nat} {f:Ps→Ps} {ks:Tfr} (h:f (inn s k (s.deep+1))=(inn s k (s.deep+1)).add y ks):nestP k f s=s.add y (.cons k s.p y ks .nil):=by
  have:=node_run (s:={s with deep:=s.deep+1}) (k:=k) (f:=f) (y:=y) (ks:=ks) h
  unfold nestP
  simp only[this]
  rfl
theorem At.init {d k x:Nat} {ks:Tfr} (h:FitsN F d k x y ks) (hk:k≠6∧k≠7) (hA:AllOK F (d+nst k) ks) (hp:s.p=x) (hd:s.deep=d) (hq:F.length<q+x) (hfo:sg F y∈fo) (hG:G ks) :
    At F q y fo ((inn s k (d+nst k)).add y ks) G (inn s k (d+nst k)) ((frm k).app .eps):=by
  obtain⟨row,h1,h2⟩:=h.fm hk.1 hk.2
  refine⟨by show F.length<q+s.p;omega,h.yF,hfo,ks,row,?_,by show Wk F y s.p ks row;rw[hp];exact h2,hA,rfl,hG⟩
  have:=Rm.app _ _ _ _ h1 Rm.eps
  rwa [List.append_nil] at this
theorem redir_wd (h:isW F s.p=true):redirB F s=false:=redir_no (l:=wsg) (by rw[isW_sg h];exact wsgn_in _) (by decide)
theorem At.simp (h:At F q y (fol 5) T (fun ks=>asgT (fstW F ks)=false) s ((frm 5).app .eps)) (hw:isW F y=false):simpP F s=T:=by
  have h1:At F q y (fol 5) T (fun ks=>asgT (fstW F ks)=false) (loopP F.length (fun s=>if redirB F s=true then (redirP F s,true) else if (isW F s.p&&asgT (tx F s.p))=true then (leafP 6 s,true) else (s,false)) s) (.cat (.alt .eps (.cat (.ch [87]) (.star (.ch [87,82])))) .eps):=by
    refine loop_gen (F:=F) simp0_c (I:=fun s=>At F q y (fol 5) T (fun ks=>asgT (fstW F ks)=false) s ((frm 5).app .eps)) (J:=fun s=>At F q y (fol 5) T (fun ks=>asgT (fstW F ks)=false) s (.cat (.alt .eps (.cat (.ch [87]) (.star (.ch [87,82])))) .eps)) (fun s h=>⟨h.leF,?_⟩) _ s rfl h
    rcases At.star h with h|h
    ·refine .inr ?_
     have hr:=redir_no (h.fst (by decide)) (by decide)
     have ha:(isW F s.p&&asgT (tx F s.p))=false:=by
       rcases At.alt h with k|k
       ·rw[(At.end' k).2,hw];rfl
       ·obtain⟨sub,r,w1,w2,_⟩:=At.word k (by decide)
        rw[show asgT (tx F s.p)=false from w2,Bool.and_false]
     simp only[hr,ha]
     exact⟨rfl,h⟩
    ·refine .inl ?_
     obtain⟨k,b,sub,r,h1,h2,h3,hb,h4,h5,h6,h7⟩:=At.kid (R:=.cat (.star (.ch [88,82])) (.cat (.alt .eps (.cat (.ch [87]) (.star (.ch [87,82])))) .eps)) h (by decide) (by decide)
     have hk:k=6∨k=8:=by
       rcases List.mem_cons.1 h1 with e|e
       ·exact .inl (ltr_inj h2 (by decide) e)
       ·exact .inr (ltr_inj h2 (by decide) (List.mem_singleton.1 e))
     have hrun:=h4.run q s rfl h.deq h.hq
     rcases hk with rfl|rfl
     ·obtain⟨w1,w2,w3⟩:=h4.wd (.inl rfl)
      have e:leafP 6 s=_:=hrun (sg_in F _)
      rw[redir_wd w1,w1,w3 rfl]
      exact⟨rfl,by show At _ _ _ _ _ _ (leafP 6 s) _;rw[e];exact h7 _ h5⟩
     ·have e:redirP F s=_:=hrun (sg_in F _)
      rw[h4.rd rfl s rfl]
      exact⟨rfl,by show At _ _ _ _ _ _ (redirP F s) _;rw[e];exact h7 _ h5⟩
  unfold simpP
  generalize (loopP F.length (fun s=>if redirB F s=true then (redirP F s,true) else if (isW F s.p&&asgT (tx F s.p))=true then (leafP 6 s,true) else (s,false)) s)=s1 at h1
  simp only
  rcases At.alt h1 with k|k
  ·rw[(At.end' k).2,hw]
   exact(At.end' k).1
  ·obtain⟨sub,r,w1,w2,w3,w4,w5⟩:=At.word k (by decide)
   rw[if_pos w1]
   have h2:At F q y (fol 5) T gT (simp1P F (leafP 7 s1)) .eps:=by
     refine loop_gen (F:=F) simp1_c (I:=fun s=>At F q y (fol 5) T gT s (.cat (.star (.ch [87,82])) .eps)) (J:=fun s=>At F q y (fol 5) T gT s .eps) (fun s h=>⟨h.leF,?_⟩) _ _ rfl (w5 gT trivial)
     rcases At.star h with h|h
     ·have hr:=redir_no (h.fst (by decide)) (by decide)
      simp only[hr,(At.end' h).2,hw]
      exact .inr ⟨rfl,h⟩
     ·refine .inl ?_
      obtain⟨k,b,sub,r,h1,h2,h3,hb,h4,h5,h6,h7⟩:=At.kid (R:=.cat (.star (.ch [87,82])) .eps) h (by decide) (by decide)
      have hk:k=7∨k=8:=by
        rcases List.mem_cons.1 h1 with e|e
        ·exact .inl (ltr_inj h2 (by decide) e)
        ·exact .inr (ltr_inj h2 (by decide) (List.mem_singleton.1 e))
      have hrun:=h4.run q s rfl h.deq h.hq
      rcases hk with rfl|rfl
      ·obtain⟨w1,w2,w3⟩:=h4.wd (.inr rfl)
       have e:leafP 7 s=_:=hrun (sg_in F _)
       rw[redir_wd w1,w1]
       exact⟨rfl,by show At _ _ _ _ _ _ (leafP 7 s) _;rw[e];exact h7 _ trivial⟩
      ·have e:redirP F s=_:=hrun (sg_in F _)
       rw[h4.rd rfl s rfl]
       exact⟨rfl,by show At _ _ _ _ _ _ (redirP F s) _;rw[e];exact h7 _ trivial⟩
   exact(At.end' h2).1
theorem At.pipIn (hL:GL F (lstF F (q-1))) (h:At F q y (fol 4) T gT s ((frm 4).app .eps)):pipInP F (lstF F (q-1)) s=T:=by
  have h1:=At.take (R:=.cat (.ch cX) (.cat (.star (pcX 3)) .eps)) h (by decide) (by decide) (by decide)
  have h2:=(At.com h1 (by decide) (by decide) (by decide)).2.2
  refine loop_gen (F:=F) (pipIn_c hL) (I:=fun s=>At F q y (fol 4) T gT s (.cat (.star (pcX 3)) .eps)) (J:=fun s=>s=T) (fun s h=>⟨h.leF,?_⟩) _ _ rfl h2
  rcases At.star h with h|h
  ·rw[comes_no (h.fst (by decide)) (by decide)]
   exact .inr ⟨rfl,(At.end' h).1⟩
  ·obtain⟨k1,k2,k3⟩:=At.next (c:=124) (R:=.cat nlX (.cat (.ch cX) (.cat (.star (pcX 3)) .eps))) h (by decide)
   rw[comes_yes (cs:=[124]) (List.mem_singleton.2 k1)]
   have k4:=At.lines k3 (by decide) (by decide)
   exact .inl ⟨rfl,(At.com k4 (by decide) (by decide) (by decide)).2.2⟩
theorem At.pip (h:At F q y fo T G s (.cat (.ch [73]) R)) (h0:(80:UInt8)∉R.hd) (hf:(R.fst fo).all (fun c=>(fol 4).contains c)=true):pipeB F s=true∧At F q y fo T gT (pipP F (lstF F (q-1)) s) R:=by
  obtain⟨k,b,sub,r,h1,h2,h3,hb,h4,h5,h6,h7⟩:=h.kid (by decide) h0
  have hk:k=4:=ltr_inj h2 (by decide) (List.mem_singleton.1 h1)
  subst hk
  have:=h4.run q s rfl h.deq h.hq (by have:=List.all_eq_true.1 hf _ h6;simpa using this)
  have e:nodeP 4 (pipInP F (lstF F (q-1))) s=_:=this
  have hp:=h4.pi (.inr (.inr rfl)) s rfl h.deq
  refine⟨hp,?_⟩
  unfold pipP
  rw[if_pos hp,e]
  exact h7 gT trivial
theorem At.and (hL:GL F (lstF F (q-1))) (h:At F q y (fol 3) T gT s ((frm 3).app .eps)):andP F (lstF F (q-1)) s=T:=by
  have h2:=(At.pip (R:=.cat (.star (pcX 2)) .eps) h (by decide) (by decide)).2
  refine loop_gen (F:=F) (and_c hL) (I:=fun s=>At F q y (fol 3) T gT s (.cat (.star (pcX 2)) .eps)) (J:=fun s=>s=T) (fun s h=>⟨h.leF,?_⟩) _ _ rfl h2
  rcases At.star h with h|h
  ·rw[comes_no (h.fst (by decide)) (by decide)]
   exact .inr ⟨rfl,(At.end' h).1⟩
  ·obtain⟨k1,k2,k3⟩:=At.ch (cs:=[97,111]) (R:=.cat nlX (.cat (.ch [73]) (.cat (.star (pcX 2)) .eps))) h (by decide)
   rw[comes_yes k1]
   have k4:=At.lines k3 (by decide) (by decide)
   exact .inl ⟨rfl,(At.pip k4 (by decide) (by decide)).2⟩
theorem At.andor (h:At F q y fo T G s (.cat (.ch [65]) R)) (h0:(80:UInt8)∉R.hd) (hf:(R.fst fo).all (fun c=>(fol 3).contains c)=true):pipeB F s=true∧At F q y fo T gT (nodeP 3 (andP F (lstF F (q-1))) s) R:=by
  obtain⟨k,b,sub,r,h1,h2,h3,hb,h4,h5,h6,h7⟩:=h.kid (by decide) h0
  have hk:k=3:=ltr_inj h2 (by decide) (List.mem_singleton.1 h1)
  subst hk
  have:=h4.run q s rfl h.deq h.hq (by have:=List.all_eq_true.1 hf _ h6;simpa using this)
  have e:nodeP 3 (andP F (lstF F (q-1))) s=_:=this
  refine⟨h4.pi (.inr (.inl rfl)) s rfl h.deq,?_⟩
  rw[e]
  exact h7 gT trivial
theorem At.sep (h:At F q y fo T gT s (.cat sepX R)) (h0:(80:UInt8)∉R.hd) (hf:(R.fst fo).all (fun c => !([110]:List UInt8).contains c)=true):∃t,sepP F s=(t,pipeB F t)∧At F q y fo T gT t R:=by
  unfold sepP
  rcases At.alt h with h|h
  ·obtain⟨k1,k2,k3⟩:=At.ch (cs:=[59,38]) (R:=.cat nlX R) h (by decide)
   rw[comes_yes k1]
   exact⟨_,rfl,At.lines k3 h0 hf⟩
  ·obtain⟨k1,k2,k3⟩:=At.ch (cs:=[110]) (R:=.cat nlX R) h (by decide)
   rw[comes_yes (cs:=[110]) k1,comes_no (cs:=[59,38]) k1 (by decide)]
   exact⟨_,rfl,At.lines (At.re h fun w=>Rm.more) h0 hf⟩
theorem At.lst (hq:1≤q) (h:At F q y (fol 2) T gT s ((frm 2).app .eps)):lstF F q s=T:=by
  obtain⟨p,rfl⟩:∃p,q=p+1:=⟨q-1,by omega⟩
  show lstP F (lstF F p) s=T
  refine loop_gen (F:=F) (lst_c (gd_lstF F p)) (I:=fun s=>At F (p+1) y (fol 2) T gT s ((frm 2).app .eps)) (J:=fun s=>s=T) (fun s h=>⟨h.leF,?_⟩) _ _ rfl h
  have h1:=(At.andor (R:=.cat (.star (pcX 1)) (.cat (.alt .eps sepX) .eps)) h (by decide) (by decide)).2
  rw[Nat.add_sub_cancel] at h1
  generalize nodeP 3 (andP F (lstF F p)) s=s1 at h1
  rcases At.star h1 with h2|h2
  ·refine .inr ?_
   rcases At.alt h2 with h3|h3
   ·have:=h3.fst (by decide)
    unfold sepP
    rw[comes_no this (by decide),comes_no this (by decide)]
    exact⟨rfl,(At.end' h3).1⟩
   ·obtain⟨t,e,h4⟩:=At.sep (R:=.eps) h3 (by decide) (by decide)
    rw[e,pipe_no (h4.fst (by decide)) (by decide)]
    exact⟨rfl,(At.end' h4).1⟩
  ·refine .inl ?_
   obtain⟨t,e,h4⟩:=At.sep (R:=.cat (.ch [65]) (.cat (.star (pcX 1)) (.cat (.alt .eps sepX) .eps))) h2 (by decide) (by decide)
   rw[e]
   exact⟨(At.andor h4 (by decide) (by decide)).1,h4⟩
end
end
end Go.Proofs.YtlbfdbinaekjoaaGreatDoor
namespace Go.Proofs.YtlbfdbinaekjoaaGreatDoor
set_option linter.unusedVariables false
set_option linter.unusedSimpArgs false
set_option maxRecDepth 100000
noncomputable section
section
variable {F:List Lf} {q y:Nat} {fo:List UInt8} {T:Ps} {G:Tfr→Prop} {s:Ps} {R:Rx}
abbrev bdX (R:Rx):Rx:=.cat nlX (.cat (.ch [76]) R)
abbrev oX (c:UInt8) (R:Rx):Rx:=.cat (.ch [c]) R
abbrev endX (c:UInt8):Rx:=oX c (.cat rsX .eps)
theorem At.do' (h:At F q y (fol 5) T gT s (oX 100 (bdX (endX 103)))):At F q y (fol 5) T gT (doP F (lstF F q) s) (.cat rsX .eps):=by
  have h1:=At.want h (by decide)
  have h2:=At.body h1 (by decide) (by decide)
  exact At.want h2 (by decide)
theorem At.bran (hL:GL F (lstF F q)) (h:At F q y (fol 5) T gT s (bdX (oX 116 (bdX (.cat (.star (pcX 4)) (.cat (.alt .eps (Rx.lst (.ch [108]))) (endX 102))))))):At F q y (fol 5) T gT (branP F (lstF F q) s) (.cat rsX .eps):=by
  have h1:=At.body h (by decide) (by decide)
  have h2:=At.want h1 (by decide)
  have h3:=At.body h2 (by decide) (by decide)
  have h4:=loop_gen (F:=F) (branch_c hL) (I:=fun s=>At F q y (fol 5) T gT s (.cat (.star (pcX 4)) (.cat (.alt .eps (Rx.lst (.ch [108]))) (endX 102)))) (J:=fun s=>At F q y (fol 5) T gT s (.cat (.alt .eps (Rx.lst (.ch [108]))) (endX 102))) (fun s h=>⟨h.leF,by
    rcases At.star h with h|h
    ·rw[comes_no (h.fst (by decide)) (by decide)]
     exact .inr ⟨rfl,h⟩
    ·obtain⟨k1,k2,k3⟩:=At.next (c:=101) (R:=bdX (oX 116 (bdX (.cat (.star (pcX 4)) (.cat (.alt .eps (Rx.lst (.ch [108]))) (endX 102)))))) h (by decide)
     rw[comes_yes (cs:=[101]) (List.mem_singleton.2 k1)]
     have k4:=At.body k3 (by decide) (by decide)
     have k5:=At.want k4 (by decide)
     exact .inl ⟨rfl,At.body k5 (by decide) (by decide)⟩⟩) _ _ rfl h3
  unfold branP
  generalize loopP F.length _ (bodyP F (lstF F q) (wantP F 116 (bodyP F (lstF F q) s)))=s1 at h4
  simp only
  refine At.want ?_ (by decide)
  rcases At.alt h4 with h5|h5
  ·rw[comes_no (h5.fst (by decide)) (by decide)]
   exact h5
  ·obtain⟨k1,k2,k3⟩:=At.next (c:=108) (R:=bdX (endX 102)) h5 (by decide)
   rw[comes_yes (cs:=[108]) (List.mem_singleton.2 k1)]
   exact At.body k3 (by decide) (by decide)
abbrev doX:Rx:=oX 100 (bdX (endX 103))
theorem At.each (h:At F q y (fol 5) T (fun ks=>nameT (fstW F ks)=true) s (.cat (.ch [87]) (.cat (.alt (.cat (.cat (.cat nlX (.ch [107])) (.star (.ch [87]))) (.alt (.cat (.ch [59]) nlX) (.cat (.ch [110]) nlX))) (.alt (.cat (.ch [59]) nlX) nlX)) doX))):At F q y (fol 5) T gT (eachP F (lstF F q) s) (.cat rsX .eps):=by
  obtain⟨sub,r,w1,w2,w3,w4,w5⟩:=At.word h (by decide)
  have e:(isW F s.p&&nameT (tx F s.p))=true:=by rw[w1,show nameT (tx F s.p)=true from w2];rfl
  have h1:=w5 gT trivial
  unfold eachP
  rw[if_pos e]
  generalize leafP 7 s=s1 at h1
  simp only
  refine At.do' ?_
  rcases At.alt h1 with h2|h2
  ·have h2:At F q y (fol 5) T gT s1 (.cat nlX (oX 107 (.cat (.star (.ch [87])) (.cat (.alt (.cat (.ch [59]) nlX) (.cat (.ch [110]) nlX)) doX)))):=h2
   rw[comes_no (h2.fst (by decide)) (by decide)]
   have h3:=At.lines h2 (by decide) (by decide)
   obtain⟨k1,k2,k3⟩:=At.next h3 (by decide)
   rw[comes_yes (cs:=[107]) (List.mem_singleton.2 k1)]
   generalize linesP F s1=s2 at k3
   have h4:At F q y (fol 5) T gT (wordsP F (nextP s2)) (.cat (.alt (.cat (.ch [59]) nlX) (.cat (.ch [110]) nlX)) doX):=
     loop_gen (F:=F) words_c (I:=fun s=>At F q y (fol 5) T gT s (.cat (.star (.ch [87])) (.cat (.alt (.cat (.ch [59]) nlX) (.cat (.ch [110]) nlX)) doX))) (J:=fun s=>At F q y (fol 5) T gT s (.cat (.alt (.cat (.ch [59]) nlX) (.cat (.ch [110]) nlX)) doX)) (fun s h=>⟨h.leF,by
       rcases At.star h with h|h
       ·have:isW F s.p=false:=by
          cases hw:isW F s.p
          ·rfl
          ·have h9:=h.fst (by decide)
           rw[isW_sg hw] at h9
           have h8:=wsgn_in (tx F s.p)
           have:∀c∈wsg,c∉Rx.fst (.cat (.alt (.cat (.ch [59]) nlX) (.cat (.ch [110]) nlX)) doX) (fol 5):=by decide
           exact absurd h9 (this _ h8)
        rw[this]
        exact .inr ⟨rfl,h⟩
       ·obtain⟨sub,r,w1,w2,w3,w4,w5⟩:=At.word (R:=.cat (.star (.ch [87])) (.cat (.alt (.cat (.ch [59]) nlX) (.cat (.ch [110]) nlX)) doX)) h (by decide)
        rw[w1]
        exact .inl ⟨rfl,w5 gT trivial⟩⟩) _ _ rfl k3
   unfold inP
   generalize wordsP F (nextP s2)=s3 at h4
   simp only
   rcases At.alt h4 with h5|h5
   ·obtain⟨k1,k2,k3⟩:=At.next (c:=59) (R:=.cat nlX doX) h5 (by decide)
    rw[comes_yes (cs:=[59]) (List.mem_singleton.2 k1)]
    exact At.lines k3 (by decide) (by decide)
   ·obtain⟨k1,k2,k3⟩:=At.ch (cs:=[110]) (R:=.cat nlX doX) h5 (by decide)
    rw[comes_no (cs:=[59]) k1 (by decide),comes_yes (cs:=[110]) k1]
    exact At.lines (At.re h5 fun w=>Rm.more) (by decide) (by decide)
  ·rcases At.alt h2 with h3|h3
   ·obtain⟨k1,k2,k3⟩:=At.next (c:=59) (R:=.cat nlX doX) h3 (by decide)
    rw[comes_yes (cs:=[59]) (List.mem_singleton.2 k1)]
    exact At.lines k3 (by decide) (by decide)
   ·have h3:At F q y (fol 5) T gT s1 (.cat nlX doX):=h3
    rw[comes_no (h3.fst (by decide)) (by decide)]
    have h4:=At.lines h3 (by decide) (by decide)
    rw[comes_no (h4.fst (by decide)) (by decide)]
    exact h4
theorem At.item (h:At F (q+1) y (fol 15) T gT s ((frm 15).app .eps)):itemP F (lstF F q) s=T:=by
  have h1:=At.take (R:=.cat (.ch [87]) (.cat (.star (pcX 6)) (oX 41 (.cat nlX (.cat (.alt .eps (.ch [76])) .eps))))) h (by decide) (by decide) (by decide)
  obtain⟨h2,h3⟩:=At.word' h1 (by decide)
  have h4:=loop_gen (F:=F) item_c (I:=fun s=>At F (q+1) y (fol 15) T gT s (.cat (.star (pcX 6)) (oX 41 (.cat nlX (.cat (.alt .eps (.ch [76])) .eps))))) (J:=fun s=>At F (q+1) y (fol 15) T gT s (oX 41 (.cat nlX (.cat (.alt .eps (.ch [76])) .eps)))) (fun s h=>⟨h.leF,by
    rcases At.star h with h|h
    ·rw[comes_no (h.fst (by decide)) (by decide)]
     exact .inr ⟨rfl,h⟩
    ·obtain⟨k1,k2,k3⟩:=At.next (c:=124) (R:=.cat (.ch [87]) (.cat (.star (pcX 6)) (oX 41 (.cat nlX (.cat (.alt .eps (.ch [76])) .eps))))) h (by decide)
     rw[comes_yes (cs:=[124]) (List.mem_singleton.2 k1)]
     exact .inl ⟨rfl,(At.word' k3 (by decide)).1⟩⟩) _ _ rfl h2
  have hlt:=(At.next h4 (by decide)).2.1
  have h5:=At.want h4 (by decide)
  have h6:=At.lines h5 (by decide) (by decide)
  have hp:s.p+1≤(loopP F.length (fun s=>if comes F [124] s=true then (wordP F (nextP s),true) else (s,false)) (wordP F (takeP F [40] s))).p:=by
    have a:=(gd_take (F:=F) (cs:=[40]) (by decide) h.leF).p
    have b:=(Gd.loop item_c _ (wordP F (takeP F [40] s)) rfl h2.leF).p
    omega
  have hp2:s.p+1≤(linesP F (wantP F 41 (loopP F.length (fun s=>if comes F [124] s=true then (wordP F (nextP s),true) else (s,false)) (wordP F (takeP F [40] s))))).p:=by
    have a:=(gd_want (F:=F) (c:=41) (by decide) h4.leF).p
    have b:=(gd_lines h5.leF).p
    omega
  unfold itemP
  generalize (linesP F (wantP F 41 (loopP F.length (fun s=>if comes F [124] s=true then (wordP F (nextP s),true) else (s,false)) (wordP F (takeP F [40] s)))))=s1 at h6 hp2
  simp only
  rcases At.alt h6 with h7|h7
  ·rw[pipe_no (h7.fst (by decide)) (by decide)]
   exact(At.end' h7).1
  ·have hq:=h.hq
   obtain⟨k1,k2⟩:=At.list (q:=q) (R:=.eps) (h7.w (by omega)) (by decide) (by decide)
   rw[if_pos k1]
   exact(At.end' k2).1
theorem At.kitem (h:At F (q+1) y fo T G s (.cat (.ch [84]) R)) (h0:(80:UInt8)∉R.hd) (hf:(R.fst fo).all (fun c=>(fol 15).contains c)=true):itemB F s=true∧At F (q+1) y fo T gT (nodeP 15 (itemP F (lstF F q)) s) R:=by
  obtain⟨k,b,sub,r,h1,h2,h3,hb,h4,h5,h6,h7⟩:=h.kid (by decide) h0
  have hk:k=15:=ltr_inj h2 (by decide) (List.mem_singleton.1 h1)
  subst hk
  have:=h4.run (q+1) s rfl h.deq h.hq (by have:=List.all_eq_true.1 hf _ h6;simpa using this)
  have e:nodeP 15 (itemP F (lstF F q)) s=_:=this
  refine⟨h4.it rfl s rfl,?_⟩
  rw[e]
  exact h7 gT trivial
theorem item_no (h:sg F s.p=122):itemB F s=false:=by
  unfold itemB
  rw[h]
  simp
theorem At.cases (hL:GL F (lstF F q)) (h:At F (q+1) y (fol 5) T gT s (.cat (.ch [87]) (.cat nlX (oX 107 (.cat nlX (.cat (.star (pcX 5)) (.cat (.alt .eps (.ch [84])) (endX 122)))))))):At F (q+1) y (fol 5) T gT (casesP F (lstF F q) s) (.cat rsX .eps):=by
  have h1:=(At.word' h (by decide)).1
  have h2:=At.lines h1 (by decide) (by decide)
  have h3:=At.want h2 (by decide)
  have h4:=At.lines h3 (by decide) (by decide)
  refine At.want ?_ (by decide)
  refine loop_gen (F:=F) (cases_c hL) (I:=fun s=>At F (q+1) y (fol 5) T gT s (.cat (.star (pcX 5)) (.cat (.alt .eps (.ch [84])) (endX 122)))) (J:=fun s=>At F (q+1) y (fol 5) T gT s (endX 122)) (fun s h=>⟨h.leF,?_⟩) _ _ rfl h4
  rcases At.star h with h|h
  ·refine .inr ?_
   rcases At.alt h with k|k
   ·rw[item_no (At.next (R:=.cat rsX .eps) k (by decide)).1]
    exact⟨rfl,k⟩
   ·obtain⟨k1,k2⟩:=At.kitem (R:=endX 122) k (by decide) (by decide)
    have k3:=At.next k2 (by decide)
    rw[k1,comes_no (cs:=[121]) (List.mem_singleton.2 k3.1) (by decide)]
    exact⟨rfl,k2⟩
  ·refine .inl ?_
   obtain⟨k1,k2⟩:=At.kitem (R:=oX 121 (.cat nlX (.cat (.star (pcX 5)) (.cat (.alt .eps (.ch [84])) (endX 122))))) h (by decide) (by decide)
   obtain⟨k3,k4,k5⟩:=At.next k2 (by decide)
   rw[k1,comes_yes (cs:=[121]) (List.mem_singleton.2 k3)]
   exact⟨rfl,At.lines k5 (by decide) (by decide)⟩
end
section
variable {F:List Lf} {q y d k x:Nat} {ks:Tfr} {s:Ps}
theorem comp_run (h:FitsN F d k x y ks) (hk:9≤k∧k≤14) (hA:AllOK F (d+nst k) ks) (hp:s.p=x) (hd:s.deep=d) (hq:F.length<q+x) (hfo:sg F y∈fol 5):sg F x=(fs (ltr k)).getD 0 0∧compP F (lstF F (q-1)) s=s.add y (.cons k x y ks .nil):=by
  have hx:=h.xy (by omega)
  have hy:=h.yF
  obtain⟨p,rfl⟩:∃p,q=p+1:=⟨q-1,by omega⟩
  rw[Nat.add_sub_cancel]
  have hn:nst k=1:=by unfold nst;rw[if_pos (.inl hk)]
  have hfo':sg F y∈fol k:=by
    have:∀k,k<15→9≤k→fol k=fol 5:=by decide
    rw[this k (by omega) hk.1];exact hfo
  have hI:∀G:Tfr→Prop,G ks→At F (p+1) y (fol 5) ((inn s k (d+1)).add y ks) G (inn s k (d+1)) ((frm k).app .eps):=fun G hG=>by
    have:=At.init (G:=G) h ⟨by omega,by omega⟩ hA hp hd hq hfo hG
    rwa [hn] at this
  have key:sg F x=(fs (ltr k)).getD 0 0∧cknd (sg F x)=k∧redirsP F (insP F (lstF F p) (sg F x) (nextP (inn s k (d+1))))=(inn s k (d+1)).add y ks:=by
    have hL:=gd_lstF F p
    have e0:(inn s k (d+1)).p=x:=hp
    have hfin:∀{G:Tfr→Prop} {t:Ps},At F p y (fol 5) ((inn s k (d+1)).add y ks) gT t (.cat rsX .eps)→redirsP F t=(inn s k (d+1)).add y ks:=fun h=>(At.end' (At.redirs h (by decide) (by decide))).1
    have hfin1:∀{t:Ps},At F (p+1) y (fol 5) ((inn s k (d+1)).add y ks) gT t (.cat rsX .eps)→redirsP F t=(inn s k (d+1)).add y ks:=fun h=>(At.end' (At.redirs h (by decide) (by decide))).1
    have hw:∀{G:Tfr→Prop} {R:Rx},At F (p+1) y (fol 5) ((inn s k (d+1)).add y ks) G (nextP (inn s k (d+1))) R→At F p y (fol 5) ((inn s k (d+1)).add y ks) G (nextP (inn s k (d+1))) R:=fun h=>h.w (by show F.length<p+(s.p+1);omega)
    have hkk:k=9∨k=10∨k=11∨k=12∨k=13∨k=14:=by omega
    rcases hkk with rfl|rfl|rfl|rfl|rfl|rfl
    ·obtain⟨k1,k2,k3⟩:=At.next (c:=123) (R:=bdX (endX 125)) (hI gT trivial) (by decide)
     rw[e0] at k1
     rw[k1]
     have k4:=At.want (At.body (hw k3) (by decide) (by decide)) (by decide)
     exact⟨by decide,by decide,hfin (G:=gT) k4⟩
    ·obtain⟨k1,k2,k3⟩:=At.next (c:=40) (R:=bdX (endX 41)) (hI gT trivial) (by decide)
     rw[e0] at k1
     rw[k1]
     have k4:=At.want (At.body (hw k3) (by decide) (by decide)) (by decide)
     exact⟨by decide,by decide,hfin (G:=gT) k4⟩
    ·obtain⟨k1,k2,k3⟩:=At.next (c:=105) (R:=bdX (oX 116 (bdX (.cat (.star (pcX 4)) (.cat (.alt .eps (Rx.lst (.ch [108]))) (endX 102)))))) (hI gT trivial) (by decide)
     rw[e0] at k1
     rw[k1]
     exact⟨by decide,by decide,hfin (G:=gT) (At.bran hL (hw k3))⟩
    ·obtain⟨k1,k2,k3⟩:=At.next (c:=119) (R:=bdX doX) (hI gT trivial) (by decide)
     rw[e0] at k1
     rw[k1]
     exact⟨by decide,by decide,hfin (G:=gT) (At.do' (At.body (hw k3) (by decide) (by decide)))⟩
    ·obtain⟨k1,k2,k3⟩:=At.next (c:=114) (R:=.cat (.ch [87]) (.cat (.alt (.cat (.cat (.cat nlX (.ch [107])) (.star (.ch [87]))) (.alt (.cat (.ch [59]) nlX) (.cat (.ch [110]) nlX))) (.alt (.cat (.ch [59]) nlX) nlX)) doX)) (hI (fun ks=>nameT (fstW F ks)=true) (h.fr rfl)) (by decide)
     rw[e0] at k1
     rw[k1]
     exact⟨by decide,by decide,hfin (G:=gT) (At.each (hw k3))⟩
    ·obtain⟨k1,k2,k3⟩:=At.next (c:=99) (R:=.cat (.ch [87]) (.cat nlX (oX 107 (.cat nlX (.cat (.star (pcX 5)) (.cat (.alt .eps (.ch [84])) (endX 122))))))) (hI gT trivial) (by decide)
     rw[e0] at k1
     rw[k1]
     exact⟨by decide,by decide,hfin1 (At.cases hL k3)⟩
  obtain⟨k1,k2,k3⟩:=key
  refine⟨k1,?_⟩
  unfold compP
  rw[hp,k2,←hp]
  refine nest_run ?_
  rw[hd,hp]
  exact k3
theorem comp_yes (hc:sg F s.p∈([123,40,105,119,114,99]:List UInt8)) (hd:s.deep<200):compB F s=true:=by
  unfold compB
  rw[comes_yes hc,decide_eq_true hd]
  rfl
theorem comp_no {l:List UInt8} (h:sg F s.p∈l) (hd:l.all (fun c => !([123,40,105,119,114,99]:List UInt8).contains c)=true):compB F s=false:=by
  unfold compB
  rw[comes_no h hd,Bool.and_false]
end
end
end Go.Proofs.YtlbfdbinaekjoaaGreatDoor
namespace Go.Proofs.YtlbfdbinaekjoaaGreatDoor
set_option linter.unusedVariables false
set_option linter.unusedSimpArgs false
set_option maxRecDepth 100000
noncomputable section
section
variable {F:List Lf} {q y d k x:Nat} {ks:Tfr} {s:Ps} {fo:List UInt8} {T:Ps} {G:Tfr→Prop}
theorem first5 (h:At F q y fo T G s ((frm 5).app .eps)) (hlt:s.p<y) (hsm:isW F s.p=true→wsgn (tx F s.p)=120) :
    (sg F s.p=120∧(fo=fol 5→sg F (s.p+1)≠40))∨(redirB F s=true∧sg F s.p∈([60,35]:List UInt8)):=by
  rcases At.star h with h|h
  ·rcases At.alt h with k|k
   ·have:=(At.end' k).2;omega
   ·obtain⟨sub,r,w1,w2,w3,w4,w5⟩:=At.word k (by decide)
    refine .inl ⟨by rw[isW_sg w1];exact hsm w1,fun e=>?_⟩
    subst e
    have h1:=(w5 gT trivial).fst (by decide)
    rw[w4] at h1
    intro e
    rw[e] at h1
    exact absurd h1 (by decide)
  ·obtain⟨k,b,sub,r,h1,h2,h3,hb,h4,h5,h6,h7⟩:=At.kid (R:=.cat (.star (.ch [88,82])) (.cat (.alt .eps (.cat (.ch [87]) (.star (.ch [87,82])))) .eps)) h (by decide) (by decide)
   rcases List.mem_cons.1 h1 with e|e
   ·have:=ltr_inj (j:=6) h2 (by decide) e
    subst this
    obtain⟨w1,w2,w3⟩:=h4.wd (.inl rfl)
    refine .inl ⟨by rw[isW_sg w1];exact hsm w1,fun e=>?_⟩
    subst e
    subst w2
    intro e
    rw[e] at h6
    exact absurd h6 (by decide)
   ·have:=ltr_inj (j:=8) h2 (by decide) (List.mem_singleton.1 e)
    subst this
    exact .inr ⟨h4.rd rfl s rfl,h4.hd⟩
theorem fun_run (h:FitsN F d 16 x y ks) (hA:AllOK F (d+nst 16) ks) (hp:s.p=x) (hd:s.deep=d) (hq:F.length<q+x) (hfo:sg F y∈fo) (hf:fo=fol 5∨fo=asg):sg F x=120∧cmdB F s=true∧(fo=fol 5→comP F (lstF F (q-1)) s=s.add y (.cons 16 x y ks .nil)):=by
  have hn:nst 16=1:=by decide
  have h0:At F q y fo ((inn s 16 (d+1)).add y ks) (fun ks=>nameT (fstW F ks)=true∧wsgn (fstW F ks)=120) (inn s 16 (d+1)) ((frm 16).app .eps):=by
    have:=At.init (G:=fun ks=>nameT (fstW F ks)=true∧wsgn (fstW F ks)=120) h ⟨by decide,by decide⟩ hA hp hd hq hfo (h.fn rfl)
    rwa [hn] at this
  have hdp:=h.dp hn
  obtain⟨sub,r,w1,w2,w3,w4,w5⟩:=At.word (R:=oX 40 (oX 41 (.cat nlX (.cat (.ch [66,85,70,72,79,67]) .eps)))) h0 (by decide)
  have hnm:nameT (tx F s.p)=true∧wsgn (tx F s.p)=120:=w2
  have hsg:sg F s.p=120:=(isW_sg w1).trans hnm.2
  have h1:=w5 gT trivial
  obtain⟨k1,k2,k3⟩:=At.next h1 (by decide)
  have k1':sg F (s.p+1)=40:=by rw[←k1,w4];rfl
  refine⟨by rw[←hp];exact hsg,by unfold cmdB;rw[hsg];rfl,fun e=>?_⟩
  subst e
  have hfB:funB F s=true:=by unfold funB;rw[hsg,k1',hnm.1,decide_eq_true (show s.deep<200 by omega)];rfl
  unfold comP
  rw[comp_no (l:=[120]) (by rw[hsg];decide) (by decide),hfB]
  show nestP 16 (defP F (lstF F (q-1))) s=_
  rw[←hp]
  refine nest_run ?_
  rw[hd]
  unfold defP
  rw[w3]
  have e2:takeP F [40] (leafP 7 (inn s 16 (d+1)))=nextP (leafP 7 (inn s 16 (d+1))):=by unfold takeP;rw[comes_yes (cs:=[40]) (List.mem_singleton.2 k1)];rfl
  rw[e2]
  have h2:=At.want k3 (by decide)
  have h3:=At.lines h2 (by decide) (by decide)
  generalize linesP F (wantP F 41 (nextP (leafP 7 (inn s 16 (d+1)))))=s1 at h3
  obtain⟨c1,c2,c3⟩:=At.com h3 (by decide) (by decide) (by decide)
  have c4:=c2 (by decide) (by decide)
  have e3:comP F (lstF F (q-1)) s1=compP F (lstF F (q-1)) s1:=by unfold comP;rw[if_pos c4]
  simp only
  rw[if_pos c4,←e3]
  exact(At.end' c3).1
theorem ok_node (h:FitsN F d k x y ks) (hA:AllOK F (d+nst k) ks) (h1:k≠1):NodeOK F d k x y ks:=by
  have hk:=h.hk
  have hx:=h.xy h1
  have hyF:=h.yF
  by_cases h67:k=6∨k=7
  ·obtain⟨w1,w2,w3,w4⟩:=h.wd h67
   have hw:sg F x∈wsg:=by rw[isW_sg w3];exact wsgn_in _
   refine⟨?_,fun e=>by omega,fun e=>?_,fun _=>⟨w3,w1,w4⟩,fun e=>by omega,fun e=>by omega,fun q s hp hd hq hfo=>?_⟩
   ·rcases h67 with rfl|rfl<;>exact hw
   ·rcases h67 with rfl|rfl<;>exact absurd e (by decide)
   ·subst w2 w1
    have e:runK F q k s=leafP k s:=by rcases h67 with rfl|rfl<;>rfl
    rw[e,←hp]
    exact node_run (by simp[nextP,Ps.add,Tfr.fl,inn])
  have hk6:k≠6:=fun e=>h67 (.inl e)
  have hk7:k≠7:=fun e=>h67 (.inr e)
  have hI:∀(fo:List UInt8) (G:Tfr→Prop) (q:Nat) (s:Ps),s.p=x→s.deep=d→F.length<q+x→sg F y∈fo→G ks→At F q y fo ((inn s k (d+nst k)).add y ks) G (inn s k (d+nst k)) ((frm k).app .eps):=fun fo G q s hp hd hq hfo hG=>At.init h ⟨hk6,hk7⟩ hA hp hd hq hfo hG
  have hI0:∀(s:Ps),s.p=x→s.deep=d→At F (F.length+1) y asg ((inn s k (d+nst k)).add y ks) gT (inn s k (d+nst k)) ((frm k).app .eps):=fun s hp hd=>hI asg gT _ s hp hd (by omega) (sg_in F y) trivial
  have hf:(80:UInt8)∉((frm k).app .eps).hd→sg F x∈((frm k).app .eps).fst asg:=fun h0=>(hI0 ⟨x,[], -1,d⟩ rfl rfl).fst h0
  have hf':(80:UInt8)∉((frm k).app .eps).hd→(((frm k).app .eps).fst asg).all (fun c=>(fs (ltr k)).contains c)=true→sg F x∈fs (ltr k):=fun h0 ha=>by have:=List.all_eq_true.1 ha _ (hf h0);simpa using this
  have hrow:k≠17∧k≠18:=by
    obtain⟨row,m,_⟩:=h.fm hk6 hk7
    constructor<;>(rintro rfl;obtain⟨c,hc,_⟩:=Rm.ch_inv (cs:=[]) m;cases hc)
  by_cases hc:9≤k∧k≤14
  ·have hn:nst k=1:=by unfold nst;rw[if_pos (.inl hc)]
   have hdp:=h.dp hn
   have hop:∀k,k<15→9≤k→(fs (ltr k)).getD 0 0∈fs (ltr k)∧(fs (ltr k)).getD 0 0∈([123,40,105,119,114,99]:List UInt8)∧fol k=fol 5∧(80:UInt8)∉((frm k).app .eps).hd∧((frm k).app .eps).fst asg=fs (ltr k)∧(fs (ltr k)).all (fun c=>([123,40,105,119,114,99]:List UInt8).contains c)=true:=by decide
   obtain⟨o1,o2,o3,o4,o5,o6⟩:=hop k (by omega) hc.1
   have hsx:=hf o4
   rw[o5] at hsx
   have hso:sg F x∈([123,40,105,119,114,99]:List UInt8):=by have:=List.all_eq_true.1 o6 _ hsx;simpa using this
   have hcB:∀s:Ps,s.p=x→s.deep=d→compB F s=true:=fun s hp hd=>comp_yes (by rw[hp];exact hso) (by omega)
   refine⟨hsx,fun e=>by omega,fun _ s hp hd=>⟨by unfold cmdB;rw[hcB s hp hd];simp,fun _ _=>hcB s hp hd⟩,fun e=>by omega,fun e=>by omega,fun e=>by omega,fun q s hp hd hq hfo=>?_⟩
   rw[o3] at hfo
   have e:runK F q k s=comP F (lstF F (q-1)) s:=by unfold runK;rw[if_neg (by omega),if_neg (by omega),if_neg (by omega),if_neg (by omega),if_neg (by omega),if_neg (by omega)]
   rw[e]
   unfold comP
   rw[if_pos (hcB s hp hd)]
   exact(comp_run h hc hA hp hd hq hfo).2
  have hkk:k=2∨k=3∨k=4∨k=5∨k=8∨k=15∨k=16:=by omega
  rcases hkk with rfl|rfl|rfl|rfl|rfl|rfl|rfl
  ·refine⟨hf' (by decide) (by decide),fun _ s hp hd=>?_,fun e=>absurd e (by decide),fun e=>by omega,fun e=>by omega,fun e=>by omega,fun q s hp hd hq hfo=>?_⟩
   ·obtain⟨k,b,sub,r,h1,h2,h3,hb,h4,h5,h6,h7⟩:=At.kid (cs:=[65]) (R:=.cat (.star (pcX 1)) (.cat (.alt .eps sepX) .eps)) (hI0 s hp hd) (by decide) (by decide)
    have hk:k=3:=ltr_inj h2 (by decide) (List.mem_singleton.1 h1)
    subst hk
    exact h4.pi (.inr (.inl rfl)) s rfl hd
   ·have hA':=hI (fol 2) gT q s hp hd hq hfo trivial
    show nodeP 2 (lstF F q) s=_
    rw[←hp]
    refine node_run ?_
    rw[hd]
    exact At.lst (by omega) hA'
  ·refine⟨hf' (by decide) (by decide),fun _ s hp hd=>?_,fun e=>absurd e (by decide),fun e=>by omega,fun e=>by omega,fun e=>by omega,fun q s hp hd hq hfo=>?_⟩
   ·obtain⟨k,b,sub,r,h1,h2,h3,hb,h4,h5,h6,h7⟩:=At.kid (cs:=[73]) (R:=.cat (.star (pcX 2)) .eps) (hI0 s hp hd) (by decide) (by decide)
    have hk:k=4:=ltr_inj h2 (by decide) (List.mem_singleton.1 h1)
    subst hk
    exact h4.pi (.inr (.inr rfl)) s rfl hd
   ·have hA':=hI (fol 3) gT q s hp hd hq hfo trivial
    show nodeP 3 (andP F (lstF F (q-1))) s=_
    rw[←hp]
    refine node_run ?_
    rw[hd]
    exact At.and (gd_lstF F _) hA'
  ·refine⟨hf' (by decide) (by decide),fun _ s hp hd=>?_,fun e=>absurd e (by decide),fun e=>by omega,fun e=>by omega,fun e=>by omega,fun q s hp hd hq hfo=>?_⟩
   ·have hc:=hI0 s hp hd
    rcases At.alt (b:=.ch [33]) (R:=.cat (.ch cX) (.cat (.star (pcX 3)) .eps)) hc with hc|hc
    ·obtain⟨k,b,sub,r,h1,h2,h3,hb,h4,h5,h6,h7⟩:=At.kid (cs:=cX) (R:=.cat (.star (pcX 3)) .eps) hc (by decide) (by decide)
     have:=(h4.cm h1 s rfl hd).1
     unfold pipeB
     rw[this,Bool.or_true]
    ·have:=(At.next (c:=33) (R:=.cat (.ch cX) (.cat (.star (pcX 3)) .eps)) hc (by decide)).1
     have e:sg F s.p=33:=this
     unfold pipeB
     rw[e]
     rfl
   ·have hA':=hI (fol 4) gT q s hp hd hq hfo trivial
    show nodeP 4 (pipInP F (lstF F (q-1))) s=_
    rw[←hp]
    refine node_run ?_
    rw[hd]
    exact At.pipIn (gd_lstF F _) hA'
  ·obtain⟨sm1,sm2,sm3⟩:=h.sm rfl
   have hfirst:∀(fo:List UInt8) (q:Nat) (s:Ps),s.p=x→s.deep=d→F.length<q+x→sg F y∈fo→(sg F x=120∧(fo=fol 5→sg F (x+1)≠40))∨(redirB F s=true∧sg F x∈([60,35]:List UInt8)):=fun fo q s hp hd hq hfo=>by
     have:=first5 (hI fo gT q s hp hd hq hfo trivial) (by show s.p<y;omega) (by show isW F s.p=true→wsgn (tx F s.p)=120;rw[hp];exact sm1)
     have this:(sg F s.p=120∧(fo=fol 5→sg F (s.p+1)≠40))∨(redirB F s=true∧sg F s.p∈([60,35]:List UInt8)):=this
     rw[hp] at this
     exact this
   have hcm:∀s:Ps,s.p=x→s.deep=d→cmdB F s=true:=fun s hp hd=>by
     unfold cmdB
     rcases hfirst asg (F.length+1) s hp hd (by omega) (sg_in F y) with hw|hw
     ·rw[hp,hw.1];rfl
     ·rw[hw.1];simp
   refine⟨?_,fun e=>by omega,fun _ s hp hd=>⟨hcm s hp hd,fun e=>absurd rfl e⟩,fun e=>by omega,fun e=>by omega,fun e=>by omega,fun q s hp hd hq hfo=>?_⟩
   ·rcases hfirst asg (F.length+1) ⟨x,[], -1,d⟩ rfl rfl (by omega) (sg_in F y) with hw|hw
    ·rw[hw.1];decide
    ·have:∀c∈([60,35]:List UInt8),c∈fs (ltr 5):=by decide
     exact this _ hw.2
   ·have hw:=hfirst (fol 5) q s hp hd hq hfo
    have hcB:compB F s=false:=by
      refine comp_no (l:=[120,60,35]) ?_ (by decide)
      rw[hp]
      rcases hw with hw|hw
      ·rw[hw.1];decide
      ·exact List.mem_cons_of_mem _ hw.2
    have hfB:funB F s=false:=by
      unfold funB
      rw[hp]
      rcases hw with hw|hw
      ·rw[beq_false_of_ne (hw.2 rfl)];simp
      ·have:∀c∈([60,35]:List UInt8),(c==120)=false:=by decide
       rw[this _ hw.2];rfl
    show comP F (lstF F (q-1)) s=_
    unfold comP
    rw[hcB,hfB,hcm s hp hd]
    show nodeP 5 (simpP F) s=_
    rw[←hp]
    refine node_run ?_
    rw[hd]
    exact At.simp (hI (fol 5) (fun ks=>asgT (fstW F ks)=false) q s hp hd hq hfo sm2) sm3
  ·have hal:∀{fo q} {s:Ps},At F q y fo ((inn s 8 (d+nst 8)).add y ks) gT (inn s 8 (d+nst 8)) ((frm 8).app .eps)→redirB F s=true∧wordP F (takeP F [60] (takeP F [35] (inn s 8 (d+nst 8))))=(inn s 8 (d+nst 8)).add y ks:=fun {fo q s} hc=>by
     have h2:∀t:Ps,At F q y fo ((inn s 8 (d+nst 8)).add y ks) gT t (oX 60 (.cat (.ch [87]) .eps))→sg F t.p=60∧wordP F (takeP F [60] t)=(inn s 8 (d+nst 8)).add y ks:=fun t ht=>by
       obtain⟨k1,k2,k3⟩:=At.next ht (by decide)
       refine⟨k1,?_⟩
       unfold takeP
       rw[comes_yes (cs:=[60]) (List.mem_singleton.2 k1)]
       exact(At.end' (At.word' k3 (by decide)).1).1
     rcases At.alt (b:=.ch [35]) (R:=oX 60 (.cat (.ch [87]) .eps)) hc with hc|hc
     ·obtain⟨k1,k2⟩:=h2 _ hc
      have e:sg F s.p=60:=k1
      have e2:takeP F [35] (inn s 8 (d+nst 8))=inn s 8 (d+nst 8):=by unfold takeP;rw[comes_no (l:=[60]) (cs:=[35]) (by rw[k1];decide) (by decide)];rfl
      rw[e2]
      exact⟨by unfold redirB;rw[e];rfl,k2⟩
     ·obtain⟨k1,k2,k3⟩:=At.next (c:=35) (R:=oX 60 (.cat (.ch [87]) .eps)) hc (by decide)
      obtain⟨k4,k5⟩:=h2 _ k3
      have e:sg F s.p=35:=k1
      have e1:sg F (s.p+1)=60:=k4
      have e2:takeP F [35] (inn s 8 (d+nst 8))=nextP (inn s 8 (d+nst 8)):=by unfold takeP;rw[comes_yes (cs:=[35]) (List.mem_singleton.2 k1)];rfl
      rw[e2]
      exact⟨by unfold redirB;rw[e,e1];rfl,k5⟩
   refine⟨hf' (by decide) (by decide),fun e=>by omega,fun e=>absurd e (by decide),fun e=>by omega,fun _ s hp=>?_,fun e=>by omega,fun q s hp hd hq hfo=>?_⟩
   ·exact(hal (s:={s with deep:=d}) (hI0 {s with deep:=d} hp rfl)).1
   ·show redirP F s=_
    unfold redirP
    rw[←hp]
    refine node_run ?_
    rw[hd]
    exact(hal (hI asg gT q s hp hd hq (sg_in F y) trivial)).2
  ·have hit:∀s:Ps,s.p=x→itemB F s=true:=fun s hp=>by
     unfold itemB
     rw[hp]
     by_cases h40:sg F x=40
     ·rw[h40];rfl
     ·have hc:=hI asg (fun ks=>wsgn (fstW F ks)≠122) (F.length+1) ⟨x,[], -1,d⟩ rfl rfl (by omega) (sg_in F y) ((h.it rfl).resolve_left h40)
      rcases At.alt (b:=.ch [40]) (R:=.cat (.ch [87]) (.cat (.star (pcX 6)) (oX 41 (.cat nlX (.cat (.alt .eps (.ch [76])) .eps))))) hc with hc|hc
      ·obtain⟨sub,r,w1,w2,_⟩:=At.word (R:=.cat (.star (pcX 6)) (oX 41 (.cat nlX (.cat (.alt .eps (.ch [76])) .eps)))) hc (by decide)
       have w1:isW F x=true:=w1
       have w2:wsgn (tx F x)≠122:=w2
       rw[w1,isW_sg w1]
       simp[w2]
      ·exact absurd (At.next (c:=40) (R:=.cat (.ch [87]) (.cat (.star (pcX 6)) (oX 41 (.cat nlX (.cat (.alt .eps (.ch [76])) .eps))))) hc (by decide)).1 h40
   refine⟨hf' (by decide) (by decide),fun e=>by omega,fun e=>absurd e (by decide),fun e=>by omega,fun e=>by omega,fun _ s hp=>hit s hp,fun q s hp hd hq hfo=>?_⟩
   obtain⟨p,rfl⟩:∃p,q=p+1:=⟨q-1,by omega⟩
   show nodeP 15 (itemP F (lstF F p)) s=_
   rw[←hp]
   refine node_run ?_
   rw[hd]
   exact At.item (hI (fol 15) gT (p+1) s hp hd hq hfo trivial)
  ·refine⟨by rw[(fun_run (q:=F.length+1) (fo:=asg) (s:=⟨x,[], -1,d⟩) h hA rfl rfl (by omega) (sg_in F y) (.inr rfl)).1];decide,fun e=>by omega,fun _ s hp hd=>⟨(fun_run (q:=F.length+1) (fo:=asg) h hA hp hd (by omega) (sg_in F y) (.inr rfl)).2.1,fun _ e=>absurd rfl e⟩,fun e=>by omega,fun e=>by omega,fun e=>by omega,fun q s hp hd hq hfo=>?_⟩
   exact(fun_run h hA hp hd hq hfo (.inl rfl)).2.2 rfl
theorem all_ok:∀(f:Tfr) (d:Nat),Der F d f→AllOK F d f
  | .nil,_,_=>trivial
  | .cons k x y ks r,d,h=>⟨h.1.hk,fun h1=>ok_node h.1 (all_ok ks _ h.2.1) h1,all_ok r d h.2.2⟩
theorem prog_at:∀(m:Nat) (s:Ps),F.length-s.p=m→At F (F.length+1) F.length (fol 2) T gT s (.cat nlX (.cat (.alt .eps (.ch [76])) .eps))→(progP F (lstA F) (s,false)).1=T:=by
  intro m
  induction m using Nat.strongRecOn with
  | _ m ih=>
    intro s hm h
    have hL:=gd_lstF F (F.length+1)
    have stop:∀(t:Ps) (b:Bool),At F (F.length+1) F.length (fol 2) T gT t .eps→(progP F (lstA F) (t,b)).1=T:=fun t b ht=>by
      obtain⟨e1,e2⟩:=At.end' ht
      have e3:comes F [110] t=false:=comes_no (ht.fst (by decide)) (by decide)
      have e4:pipeB F t=false:=pipe_no (ht.fst (by decide)) (by decide)
      have e:progC F (lstA F) (t,b)=((t,b),false):=by
        unfold progC
        simp only[e3,e4,Bool.and_false]
        simp[e2]
      rw[progP_eq hL _ (by show t.p≤_;omega),e]
      exact e1
    rcases At.star h with h1|h1
    ·rcases At.alt h1 with h2|h2
     ·exact stop _ _ h2
     ·obtain⟨k1,k2⟩:=At.list (R:=.eps) h2 (by decide) (by decide)
      have e3:comes F [110] s=false:=comes_no (At.fst h2 (by decide)) (by decide)
      have e:progC F (lstA F) (s,false)=((nodeP 2 (lstA F) s,true),true):=by
        unfold progC
        simp only[e3,k1]
        rfl
      rw[progP_eq hL _ h.leF,e]
      exact stop _ _ k2
    ·obtain⟨k1,k2,k3⟩:=At.next (c:=110) (R:=.cat nlX (.cat (.alt .eps (.ch [76])) .eps)) h1 (by decide)
     have e:progC F (lstA F) (s,false)=((nextP s,false),true):=by
       unfold progC
       simp only[comes_yes (cs:=[110]) (List.mem_singleton.2 k1)]
       rfl
     rw[progP_eq hL _ h.leF,e]
     exact ih (F.length-(s.p+1)) (by omega) (nextP s) rfl k3
theorem finds (h:Der F 0 (.cons 1 0 F.length ks .nil)):(parseT F).l=(Tfr.cons 1 0 F.length ks .nil).fl 0 (-1):=by
  have hA:=all_ok ks _ h.2.1
  have h0:At F (F.length+1) F.length (fol 2) ((inn (ps0 0) 1 0).add F.length ks) gT (inn (ps0 0) 1 0) ((frm 1).app .eps):=
    At.init h.1 ⟨by decide,by decide⟩ hA rfl rfl (by omega) (by unfold sg;rw[List.getElem?_eq_none (Nat.le_refl _)];decide) trivial
  have:=node_run (s:=ps0 0) (k:=1) (f:=fun s=>(progP F (lstA F) (s,false)).1) (ks:=ks) (y:=F.length) (prog_at _ _ rfl h0)
  unfold parseT
  rw[this]
  rfl
end
end
end Go.Proofs.YtlbfdbinaekjoaaGreatDoor
namespace Go.Proofs.YtlbfdbinaekjoaaGreatDoor
set_option linter.unusedVariables false
set_option linter.unusedSimpArgs false
set_option maxRecDepth 100000
noncomputable section
def abN (L:List Nd) (a b:Nat):Bool:=abv (L.map nz) a (b+1) b
structure RtF (L:List Nd) (N i:Nat) (x:Nd):Prop where
  hk:1≤x.kd∧x.kd≤18
  le:x.fr≤x.tt
  z:i=0→x.up = -1∧x.fr=0∧x.tt=N
  up:0<i→∃(u:Nat) (m:Nd),x.up=u∧u<i∧abN L u (i-1)=true∧L[u]? = some m∧m.fr≤x.fr∧x.tt≤m.tt
  sb:∀(k:Nat) (z:Nd),1≤k→k<i→L[k]? = some z→z.up=x.up→z.tt≤x.fr
def sgR (F:List Lf) (a b:Nat):List UInt8:=(List.range' a (b-a)).map (sg F)
def rowS (F:List Lf) (i:Nat):List Nd→Nat→List UInt8×Nat
  | [],p=>([],p)
  | n::r,p=>if n.up=(i:Int) then (sgR F p n.fr++ltr n.kd::(rowS F i r n.tt).1,(rowS F i r n.tt).2) else rowS F i r p
def rowN (F:List Lf) (L:List Nd) (i:Nat) (x:Nd):List UInt8:=(rowS F i (L.drop (i+1)) x.fr).1++sgR F (rowS F i (L.drop (i+1)) x.fr).2 x.tt
def fstS (F:List Lf) (i:Nat):List Nd→List UInt8
  | []=>[]
  | n::r=>if n.up=(i:Int)∧n.kd=7∧n.fr<n.tt then tx F n.fr else fstS F i r
def cntK (L:List Nd) (i:Nat):Nat→Nat
  | 0=>0
  | k+1=>cntK L i k+(match L[k]? with|some z=>if nst z.kd=1∧abN L k i=true then 1 else 0|none=>0)
structure FitL (F:List Lf) (L:List Nd) (i:Nat) (x:Nd):Prop where
  ne:x.kd≠1→x.fr<x.tt
  wd:x.kd=6∨x.kd=7→x.tt=x.fr+1∧(∀n,L[i+1]? = some n→n.up≠(i:Int))∧isW F x.fr=true∧(x.kd=6→asgT (tx F x.fr)=true)
  fm:x.kd≠6→x.kd≠7→Rm (frm x.kd) (rowN F L i x)
  dp:nst x.kd=1→cntK L i i<200
  sm:x.kd=5→(isW F x.fr=true→wsgn (tx F x.fr)=120)∧asgT (fstS F i (L.drop (i+1)))=false∧isW F x.tt=false
  fn:x.kd=16→nameT (fstS F i (L.drop (i+1)))=true∧wsgn (fstS F i (L.drop (i+1)))=120
  fr:x.kd=13→nameT (fstS F i (L.drop (i+1)))=true
  it:x.kd=15→sg F x.fr=40∨wsgn (fstS F i (L.drop (i+1)))≠122
theorem fl_up:∀(f:Tfr) (b:Nat) (u:Int) (n:Nd),n∈f.fl b u→n.up=u∨(b:Int)≤n.up
  | .nil,b,u,n,h=>by cases h
  | .cons k x y ks r,b,u,n,h=>by
    rcases List.mem_cons.1 h with rfl|h
    ·exact .inl rfl
    ·rcases List.mem_append.1 h with h|h
     ·rcases fl_up ks _ _ n h with e|e
      ·right;rw[e];omega
      ·right;omega
     ·rcases fl_up r _ _ n h with e|e
      ·exact .inl e
      ·right;omega
theorem rowS_skip (F:List Lf) (i:Nat):∀(l m:List Nd) (p:Nat),(∀n∈l,n.up≠(i:Int))→rowS F i (l++m) p=rowS F i m p
  | [],_,_,_=>rfl
  | n::r,m,p,h=>by
    show (if n.up=(i:Int) then _ else rowS F i (r++m) p)=_
    rw[if_neg (h n (List.mem_cons_self ..))]
    exact rowS_skip F i r m p fun n hn=>h n (List.mem_cons_of_mem _ hn)
theorem fstS_skip (F:List Lf) (i:Nat):∀(l m:List Nd),(∀n∈l,n.up≠(i:Int))→fstS F i (l++m)=fstS F i m
  | [],_,_=>rfl
  | n::r,m,h=>by
    show (if n.up=(i:Int)∧n.kd=7∧n.fr<n.tt then _ else fstS F i (r++m))=_
    rw[if_neg fun e=>h n (List.mem_cons_self ..) e.1]
    exact fstS_skip F i r m fun n hn=>h n (List.mem_cons_of_mem _ hn)
def rowF (F:List Lf):Nat→Tfr→List UInt8×Nat
  | p,.nil=>([],p)
  | p,.cons k x y _ r=>(sgR F p x++ltr k::(rowF F y r).1,(rowF F y r).2)
theorem rowS_fl (F:List Lf) (i:Nat) (m:List Nd) (hm:∀n∈m,n.up≠(i:Int)):∀(f:Tfr) (b p:Nat),i<b→rowS F i (f.fl b i++m) p=rowF F p f
  | .nil,b,p,_=>by
    show rowS F i m p=([],p)
    have:=rowS_skip F i m [] p hm
    rw[List.append_nil] at this
    rw[this]
    rfl
  | .cons k x y ks r,b,p,h=>by
    show rowS F i (⟨k,x,y,i⟩::(ks.fl (b+1) b++r.fl (b+1+ks.sz) i)++m) p=_
    rw[List.cons_append,List.append_assoc]
    show (if (i:Int)=(i:Int) then (sgR F p x++ltr k::(rowS F i (ks.fl (b+1) b++(r.fl (b+1+ks.sz) i++m)) y).1,(rowS F i (ks.fl (b+1) b++(r.fl (b+1+ks.sz) i++m)) y).2) else _)=_
    rw[if_pos rfl,rowS_skip F i _ _ y fun n hn=>by rcases fl_up ks _ _ n hn with e|e<;>omega,rowS_fl F i m hm r _ y (by omega)]
    rfl
def xyF:Tfr→Prop
  | .nil=>True
  | .cons k x y _ r=>x<y∧xyF r
theorem fstS_fl (F:List Lf) (i:Nat) (m:List Nd) (hm:∀n∈m,n.up≠(i:Int)):∀(f:Tfr) (b:Nat),i<b→xyF f→fstS F i (f.fl b i++m)=fstW F f
  | .nil,b,_,_=>by
    show fstS F i m=[]
    have:=fstS_skip F i m [] hm
    rw[List.append_nil] at this
    rw[this]
    rfl
  | .cons k x y ks r,b,h,hx=>by
    show fstS F i (⟨k,x,y,i⟩::(ks.fl (b+1) b++r.fl (b+1+ks.sz) i)++m)=_
    rw[List.cons_append,List.append_assoc]
    show (if (i:Int)=(i:Int)∧k=7∧x<y then tx F x else fstS F i (ks.fl (b+1) b++(r.fl (b+1+ks.sz) i++m)))=(if k=7 then tx F x else fstW F r)
    rw[fstS_skip F i _ _ fun n hn=>by rcases fl_up ks _ _ n hn with e|e<;>omega,fstS_fl F i m hm r _ (by omega) hx.2]
    simp[hx.1]
def OrdF:Nat→Tfr→Nat→Prop
  | p,.nil,y=>p≤y
  | p,.cons _ x b _ r,y=>p≤x∧x≤b∧OrdF b r y
theorem OrdF.le:∀{p y:Nat} {f:Tfr},OrdF p f y→p≤y
  | _,_,.nil,h=>h
  | _,_,.cons _ _ _ _ r,h=>Nat.le_trans h.1 (Nat.le_trans h.2.1 (OrdF.le (f:=r) h.2.2))
theorem sgR_nil (F:List Lf) (a:Nat):sgR F a a=[]:=by unfold sgR;simp
theorem sgR_cons (F:List Lf) {a b:Nat} (h:a<b):sgR F a b=sg F a::sgR F (a+1) b:=by
  unfold sgR
  obtain⟨n,hn⟩:∃n,b-a=n+1:=⟨b-a-1,by omega⟩
  rw[hn,show b-(a+1)=n by omega,List.range'_succ]
  rfl
theorem wk_sgR {F:List Lf} {y x:Nat} {ks:Tfr} {row:List UInt8} (h:Wk F y x ks row):∀n p,x=p+n→Wk F y p ks (sgR F p x++row)
  | 0,p,e=>by
    obtain rfl:x=p:=e
    rw[sgR_nil];exact h
  | n+1,p,e=>by
    have:=h.le
    rw[sgR_cons F (by omega)]
    exact .leaf (by omega) (wk_sgR h n (p+1) (by omega))
theorem wk_row {F:List Lf} {y:Nat}:∀(f:Tfr) (p:Nat),OrdF p f y→xyF f→Wk F y p f ((rowF F p f).1++sgR F (rowF F p f).2 y)
  | .nil,p,h,_=>by
    show Wk F y p .nil ([]++sgR F p y)
    have:=wk_sgR (F:=F) (Wk.nil (F:=F) (y:=y)) (y-p) p (by have:p≤y:=h;omega)
    rwa [List.append_nil] at this
  | .cons k x b ks r,p,h,hx=>by
    show Wk F y p _ ((sgR F p x++ltr k::(rowF F b r).1)++sgR F (rowF F b r).2 y)
    rw[List.append_assoc,List.cons_append]
    have h1:=wk_row (F:=F) r b h.2.2 hx.2
    have:=OrdF.le (f:=r) h.2.2
    exact wk_sgR (Wk.kid hx.1 this h1) (x-p) p (by have:=h.1;omega)
def alph:Rx→List UInt8
  | .eps=>[]
  | .ch cs=>cs
  | .cat a b=>alph a++alph b
  | .alt a b=>alph a++alph b
  | .star a=>alph a
theorem Rm.alph {r:Rx} {w:List UInt8} (h:Rm r w):∀c∈w,c∈alph r:=by
  induction h with
  | eps=>intro c hc;cases hc
  | ch h=>intro c hc;rw[List.mem_singleton.1 hc];exact h
  | cat _ _ h k=>
    intro c hc
    rcases List.mem_append.1 hc with hc|hc
    ·exact List.mem_append_left _ (h c hc)
    ·exact List.mem_append_right _ (k c hc)
  | altl _ h=>intro c hc;exact List.mem_append_left _ (h c hc)
  | altr _ h=>intro c hc;exact List.mem_append_right _ (h c hc)
  | s0=>intro c hc;cases hc
  | s1 _ _ h k=>
    intro c hc
    rcases List.mem_append.1 hc with hc|hc
    ·exact h c hc
    ·exact k c hc
theorem ltr_row (F:List Lf):∀(f:Tfr) (p:Nat),(80:UInt8)∉(rowF F p f).1→∀d,Der F d f→xyF f
  | .nil,_,_,_,_=>trivial
  | .cons k x y ks r,p,h,d,hD=>by
    have h2:(80:UInt8)∉sgR F p x++ltr k::(rowF F y r).1:=h
    simp only[List.mem_append,List.mem_cons,not_or] at h2
    exact⟨hD.1.xy fun e=>h2.2.1 (by rw[e];rfl),ltr_row F r y h2.2.2 d hD.2.2⟩
section
variable {F:List Lf} {L:List Nd}
theorem ab_self (a:Nat):abN L a a=true:=by
  unfold abN
  show (a==a||_)=true
  rw[beq_self_eq_true]
  rfl
variable (hR:∀(i:Nat) (x:Nd),L[i]? = some x→RtF L F.length i x)
include hR
theorem up_lt {j:Nat} {x:Nd} (h:L[j]? = some x):x.up<(j:Int):=by
  have h1:=hR j x h
  rcases Nat.eq_zero_or_pos j with h0|h0
  ·have:=(h1.z h0).1;omega
  ·obtain⟨u,m,e,hu,_⟩:=h1.up h0;omega
theorem upz (N:Nat):∀(j:Nat) (x:Nz),j<N→(L.map nz)[j]? = some x→x.up<(j:Int):=by
  intro j x _ h
  rw[List.getElem?_map] at h
  obtain⟨y,hy,rfl⟩:=Option.map_eq_some_iff.1 h
  exact up_lt hR hy
theorem ab_step {a b u:Nat} {x:Nd} (hx:L[b]? = some x) (hu:x.up=(u:Int)) (hab:a≠b):abN L a b=abN L a u:=by
  unfold abN
  have h1:(L.map nz)[b]? = some (nz x):=by rw[List.getElem?_map,hx];rfl
  rw[abv_step (upz hR (b+1)) (by omega) h1 hab]
  have:(nz x).up=(u:Int):=hu
  rw[this,if_pos (by omega),Int.toNat_natCast]
theorem ab_le:∀(b a:Nat),b<L.length→abN L a b=true→a≤b:=by
  intro b
  induction b using Nat.strongRecOn with
  | _ b ih=>
    intro a hb h
    by_cases hab:a=b
    ·omega
    ·obtain⟨x,hx⟩:∃x,L[b]? = some x:=⟨_,List.getElem?_eq_getElem hb⟩
     rcases Nat.eq_zero_or_pos b with h0|h0
     ·subst h0
      exfalso
      unfold abN at h
      have h1:(L.map nz)[0]? = some (nz x):=by rw[List.getElem?_map,hx];rfl
      rw[abv_step (upz hR 1) (by omega) h1 hab] at h
      have:(nz x).up = -1:=((hR 0 x hx).z rfl).1
      rw[this] at h
      simp at h
     ·obtain⟨u,m,e,hu,_⟩:=(hR b x hx).up h0
      rw[ab_step hR hx e hab] at h
      have:=ih u hu a (by omega) h
      omega
theorem ab_trans:∀(c a b:Nat),c<L.length→abN L a b=true→abN L b c=true→abN L a c=true:=by
  intro c
  induction c using Nat.strongRecOn with
  | _ c ih=>
    intro a b hc h k
    by_cases hbc:b=c
    ·rw[←hbc];exact h
    ·obtain⟨x,hx⟩:∃x,L[c]? = some x:=⟨_,List.getElem?_eq_getElem hc⟩
     have hle:=ab_le hR c b hc k
     obtain⟨u,m,e,hu,_⟩:=(hR c x hx).up (by omega)
     rw[ab_step hR hx e hbc] at k
     have h1:=ih u hu a b (by omega) h k
     by_cases hac:a=c
     ·rw[hac];exact ab_self c
     ·rw[ab_step hR hx e hac];exact h1
theorem tt_le:∀(i:Nat) (x:Nd),L[i]? = some x→x.tt≤F.length:=by
  intro i
  induction i using Nat.strongRecOn with
  | _ i ih=>
    intro x hx
    rcases Nat.eq_zero_or_pos i with h0|h0
    ·have:=((hR i x hx).z h0).2.2;omega
    ·obtain⟨u,m,e,hu,_,hm,_,h2⟩:=(hR i x hx).up h0
     have:=ih u hu m hm
     omega
omit hR in
theorem cnt_mono (i:Nat):∀{j k:Nat},j≤k→cntK L i j≤cntK L i k:=by
  intro j k h
  induction k with
  | zero=>obtain rfl:j=0:=by omega
          exact Nat.le_refl _
  | succ k ih=>
    rcases Nat.lt_or_ge j (k+1) with h1|h1
    ·exact Nat.le_trans (ih (by omega)) (Nat.le_add_right _ _)
    ·obtain rfl:j=k+1:=by omega
     exact Nat.le_refl _
theorem cnt_up {i u:Nat} {x:Nd} (hx:L[i]? = some x) (hu:x.up=(u:Int)):∀k,k≤i→cntK L i k=cntK L u k
  | 0,_=>rfl
  | k+1,h=>by
    show cntK L i k+_=cntK L u k+_
    rw[cnt_up hx hu k (by omega),ab_step hR hx hu (a:=k) (by omega)]
theorem fits_of {i d:Nat} {x:Nd} {f:Tfr} {m:List Nd} (hx:L[i]? = some x) (hF:FitL F L i x) (hd:L.drop (i+1)=f.fl (i+1) i++m) (hm:∀n∈m,n.up≠(i:Int)) (hD:Der F (d+nst x.kd) f) (hO:OrdF x.fr f x.tt) (hc:d≤cntK L i i):FitsN F d x.kd x.fr x.tt f:=by
  have hr:=hR i x hx
  have hrow:rowN F L i x=(rowF F x.fr f).1++sgR F (rowF F x.fr f).2 x.tt:=by
    unfold rowN
    rw[hd,rowS_fl F i m hm f (i+1) x.fr (by omega)]
  have hxy:xyF f:=by
    by_cases h67:x.kd=6∨x.kd=7
    ·obtain⟨_,h2,_⟩:=hF.wd h67
     cases f with
     | nil=>trivial
     | cons k a b ks r=>
       exfalso
       have:L[i+1]? = some ⟨k,a,b,(i:Int)⟩:=by
         have e:(L.drop (i+1))[0]? = L[i+1]? := by rw[List.getElem?_drop]
         rw[←e,hd];rfl
       exact h2 _ this rfl
    ·have h1:=(hF.fm (fun e=>h67 (.inl e)) (fun e=>h67 (.inr e))).alph
     rw[hrow] at h1
     refine ltr_row F f x.fr (fun h80=>?_) _ hD
     have h2:=h1 80 (List.mem_append_left _ h80)
     have h3:∀k,k<19→(80:UInt8)∉alph (frm k):=by decide
     exact h3 x.kd (by have:=hr.hk;omega) h2
  have hfw:fstS F i (L.drop (i+1))=fstW F f:=by rw[hd];exact fstS_fl F i m hm f (i+1) (by omega) hxy
  refine⟨hr.hk,hF.ne,tt_le hR i x hx,fun h67=>?_,fun h6 h7=>⟨_,hF.fm h6 h7,?_⟩,fun h=>Nat.lt_of_le_of_lt hc (hF.dp h),fun h=>?_,fun h=>?_,fun h=>?_,fun h=>?_⟩
  ·obtain⟨h1,h2,h3⟩:=hF.wd h67
   refine⟨h1,?_,h3⟩
   cases f with
   | nil=>rfl
   | cons k a b ks r=>
     exfalso
     have:L[i+1]? = some ⟨k,a,b,(i:Int)⟩:=by
       have e:(L.drop (i+1))[0]? = L[i+1]? := by rw[List.getElem?_drop]
       rw[←e,hd];rfl
     exact h2 _ this rfl
  ·rw[hrow]
   exact wk_row f x.fr hO hxy
  ·rw[←hfw];exact hF.sm h
  ·rw[←hfw];exact hF.fn h
  ·rw[←hfw];exact hF.fr h
  ·rw[←hfw];exact hF.it h
theorem forest_of (hF:∀(i:Nat) (x:Nd),L[i]? = some x→FitL F L i x):∀(n b u d:Nat) (mu:Nd),L.length-b=n→u<b→b≤L.length→L[u]? = some mu→(∀x,L[b]? = some x→∃v:Nat,x.up=(v:Int)∧abN L v u=true)→d≤cntK L u u+nst mu.kd →
    ∃f:Tfr,b+f.sz≤L.length∧L.drop b=f.fl b u++L.drop (b+f.sz)∧(∀x,L[b+f.sz]? = some x→∃v:Nat,x.up=(v:Int)∧abN L v u=true∧v≠u)∧(∀(k:Nat) (x:Nd),b+f.sz≤k→L[k]? = some x→x.up≠(u:Int)∧abN L u k=false)∧Der F d f ∧
     ∀p y,p≤y→(∀(k:Nat) (x:Nd),b≤k→L[k]? = some x→x.up=(u:Int)→p≤x.fr∧x.tt≤y)→OrdF p f y:=by
  intro n
  induction n using Nat.strongRecOn with
  | _ n ih=>
    intro b u d mu hn hub hb hmu hent hd
    have stop:(∀x,L[b]? = some x→∃v:Nat,x.up=(v:Int)∧abN L v u=true∧v≠u)→∃f:Tfr,b+f.sz≤L.length∧L.drop b=f.fl b u++L.drop (b+f.sz)∧(∀x,L[b+f.sz]? = some x→∃v:Nat,x.up=(v:Int)∧abN L v u=true∧v≠u)∧(∀(k:Nat) (x:Nd),b+f.sz≤k→L[k]? = some x→x.up≠(u:Int)∧abN L u k=false)∧Der F d f ∧
      ∀p y,p≤y→(∀(k:Nat) (x:Nd),b≤k→L[k]? = some x→x.up=(u:Int)→p≤x.fr∧x.tt≤y)→OrdF p f y:=fun hex=>by
      refine⟨.nil,hb,rfl,hex,?_,trivial,fun p y h _=>h⟩
      intro k
      induction k with
      | zero=>intro x hk hx;have:b=0:=by simpa [Tfr.sz] using hk
              omega
      | succ k ihk=>
        intro x hk hx
        have hk:b≤k+1:=hk
        have hlt:=(List.getElem?_eq_some_iff.1 hx).1
        rcases Nat.lt_or_ge k b with h1|h1
        ·obtain rfl:b=k+1:=by omega
         obtain⟨v,e,h2,h3⟩:=hex x hx
         refine⟨by rw[e];omega,?_⟩
         rw[ab_step hR hx e (by omega)]
         cases h4:abN L u v
         ·rfl
         ·have h5:=ab_le hR u v (by omega) h2
          have h6:=ab_le hR v u (by omega) h4
          omega
        ·obtain⟨z,hz⟩:∃z,L[k]? = some z:=⟨_,List.getElem?_eq_getElem (by omega)⟩
         have h2:=(ihk z h1 hz).2
         obtain⟨v,m,e,hv,h3,_⟩:=(hR (k+1) x hx).up (by omega)
         rw[Nat.add_sub_cancel] at h3
         have h4:abN L u v=false:=by
           cases h4:abN L u v
           ·rfl
           ·rw[ab_trans hR k u v (by omega) h4 h3] at h2;cases h2
         refine⟨?_,by rw[ab_step hR hx e (by omega)];exact h4⟩
         rw[e]
         intro e2
         obtain rfl:v=u:=by omega
         rw[ab_self] at h4
         cases h4
    rcases Nat.lt_or_ge b L.length with hlt|hge
    case inr=>exact stop fun x hx=>by have:=(List.getElem?_eq_some_iff.1 hx).1;omega
    obtain⟨x,hx⟩:∃x,L[b]? = some x:=⟨_,List.getElem?_eq_getElem hlt⟩
    obtain⟨v,e,hv⟩:=hent x hx
    by_cases hvu:v=u
    case neg=>exact stop fun x' hx'=>by rw[hx] at hx';cases hx';exact⟨v,e,hv,hvu⟩
    subst hvu
    have hcb:d≤cntK L b b:=by
      have h1:cntK L b (v+1)≤cntK L b b:=cnt_mono b (by omega)
      have h2:cntK L b (v+1)=cntK L v v+nst mu.kd:=by
        rw[cnt_up hR hx e (v+1) (by omega)]
        show cntK L v v+_=_
        rw[hmu]
        simp only[ab_self,and_true]
        have:nst mu.kd=0∨nst mu.kd=1:=by unfold nst;split<;>simp
        rcases this with h|h<;>rw[h]<;>simp
      omega
    obtain⟨f1,a1,a2,a3,a4,a5,a6⟩:=ih (L.length-(b+1)) (by omega) (b+1) b (d+nst x.kd) x rfl (by omega) (by omega) hx (fun z hz=>by
      obtain⟨v',m,e',hv',h3,_⟩:=(hR (b+1) z hz).up (by omega)
      exact⟨v',e',by rwa [Nat.add_sub_cancel] at h3⟩) (by omega)
    have hent2:∀z,L[b+1+f1.sz]? = some z→∃v':Nat,z.up=(v':Int)∧abN L v' v=true:=fun z hz=>by
      obtain⟨v',e',h1,h2⟩:=a3 z hz
      refine⟨v',e',?_⟩
      rw[ab_step hR hx e h2] at h1
      exact h1
    obtain⟨f2,b1,b2,b3,b4,b5,b6⟩:=ih (L.length-(b+1+f1.sz)) (by omega) (b+1+f1.sz) v d mu rfl (by omega) a1 hmu hent2 hd
    have hxe:x=⟨x.kd,x.fr,x.tt,(v:Int)⟩:=by rw[←e]
    have hL:L.drop b=x::L.drop (b+1):=by
      rw[List.drop_eq_getElem_cons hlt]
      congr 1
      rw[List.getElem?_eq_getElem hlt] at hx
      exact Option.some.inj hx
    have hsz:b+(Tfr.cons x.kd x.fr x.tt f1 f2).sz=b+1+f1.sz+f2.sz:=by simp[Tfr.sz];omega
    have hfx:FitsN F d x.kd x.fr x.tt f1:=by
      refine fits_of hR hx (hF b x hx) a2 (fun n hn=>?_) a5 ?_ hcb
      ·obtain⟨j,hj⟩:=List.mem_iff_getElem?.1 hn
       rw[List.getElem?_drop] at hj
       exact(a4 _ n (by omega) hj).1
      ·refine a6 _ _ (hR b x hx).le fun k z hk hz hup=>?_
       obtain⟨u',m',e',hu',_,hm',h1,h2⟩:=(hR k z hz).up (by omega)
       rw[hup] at e'
       obtain rfl:b=u':=by omega
       rw[hx] at hm'
       cases hm'
       exact⟨h1,h2⟩
    refine⟨.cons x.kd x.fr x.tt f1 f2,by rw[hsz];exact b1,?_,fun z hz=>?_,fun k z hk hz=>?_,⟨hfx,a5,b5⟩,fun p y hpy hall=>?_⟩
    ·rw[hL,hsz,a2,b2]
     show x::_=⟨x.kd,x.fr,x.tt,(v:Int)⟩::_++_
     rw[←hxe]
     simp[Tfr.fl]
    ·rw[hsz] at hz;exact b3 z hz
    ·rw[hsz] at hk;exact b4 k z hk hz
    ·have hbx:=hall b x (Nat.le_refl _) hx e
     refine⟨hbx.1,(hR b x hx).le,b6 x.tt y hbx.2 fun k z hk hz hup=>⟨?_,(hall k z (by omega) hz hup).2⟩⟩
     exact(hR k z hz).sb b x (by omega) (by omega) hx (by rw[e,hup])
theorem found (hF:∀(i:Nat) (x:Nd),L[i]? = some x→FitL F L i x) {r:Nd} (h0:L[0]? = some r) (h1:r.kd=1):(parseT F).l=L:=by
  have hlt:=(List.getElem?_eq_some_iff.1 h0).1
  obtain⟨z1,z2,z3⟩:=(hR 0 r h0).z rfl
  obtain⟨f,a1,a2,a3,a4,a5,a6⟩:=forest_of hR hF (L.length-1) 1 0 0 r rfl (by omega) (by omega) h0 (fun x hx=>by
    obtain⟨v,m,e,hv,h3,_⟩:=(hR 1 x hx).up (by omega)
    exact⟨v,e,h3⟩) (by omega)
  have hend:L.drop (1+f.sz)=[]:=by
    rcases Nat.lt_or_ge (1+f.sz) L.length with h|h
    ·exfalso
     obtain⟨v,e,h2,h3⟩:=a3 _ (List.getElem?_eq_getElem h)
     have:=ab_le hR 0 v hlt h2
     omega
    ·exact List.drop_eq_nil_of_le h
  rw[hend,List.append_nil] at a2
  have hfx:FitsN F 0 r.kd r.fr r.tt f:=by
    refine fits_of (m:=[]) hR h0 (hF 0 r h0) (by rw[List.append_nil];exact a2) (fun n hn=>by cases hn) (by rw[h1];exact a5) ?_ (Nat.zero_le _)
    refine a6 _ _ (hR 0 r h0).le fun k z hk hz hup=>?_
    obtain⟨u',m',e',hu',_,hm',h1,h2⟩:=(hR k z hz).up (by omega)
    rw[hup] at e'
    obtain rfl:u'=0:=by omega
    rw[h0] at hm'
    cases hm'
    exact⟨h1,h2⟩
  rw[h1,z2,z3] at hfx
  rw[finds (ks:=f) ⟨hfx,a5,trivial⟩]
  have hr:r=⟨1,0,F.length, -1⟩:=by obtain⟨a,b,c,d⟩:=r;simp at h1 z1 z2 z3;subst h1 z1 z2 z3;rfl
  have hL:L=r::L.drop 1:=by
    cases L with
    | nil=>cases h0
    | cons a t=>cases h0;rfl
  rw[hL,a2,hr]
  simp[Tfr.fl]
end
end
end Go.Proofs.YtlbfdbinaekjoaaGreatDoor
