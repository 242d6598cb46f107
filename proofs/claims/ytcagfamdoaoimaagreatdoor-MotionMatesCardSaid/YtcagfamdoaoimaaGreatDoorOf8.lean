/- PartsStack: lists for the walk. -/
import Derived.Test.YtcagfamdoaoimaaGreatDoorLa9
import Derived.Test.YtcagfamdoaoimaaGreatDoorRg8
import Derived.Test.YtcagfamdoaoimaaGreatDoorRefM3
import Derived.Test.YtcagfamdoaoimaaGreatDoorPa0
import Derived.Test.YtcagfamdoaoimaaGreatDoorMo9
import Derived.Test.YtcagfamdoaoimaaGreatDoorCls
import Derived.Test.YtcagfamdoaoimaaGreatDoorRfy
import Derived.Deep.DeepCutAuto
import Derived.Deep.CutBlock
import Derived.IntWalk
import Derived.StillTailTactics
import Derived.BigQuiet
set_option linter.unusedVariables false
set_option linter.unusedSimpArgs false
set_option maxRecDepth 100000
set_option maxHeartbeats 8000000
namespace Go.Proofs.YtcagfamdoaoimaaGreatDoor
open Go.RowKit
theorem yl (l:List UInt8) (k:Nat):rP (fY l k).1=0::eV (FT l k):=by
  unfold rP;rw[←List.map_reverse,sP];rfl
theorem Gn {X:List Int} {t:Nat} {p:Int} (hn:p∉X.take t) (h:X[t]? = some p):p∈X∧X.idxOf p=t:=by
  obtain⟨ht,he⟩:=ay.1 h;refine⟨aO h,?_⟩;have e:X=X.take t++p::X.drop (t+1):=by rw[←he,←cV ht,dr]
  rw[e,List.idxOf_append,aB hn];simp;omega
theorem Ef {X:List Int} {t:Nat} {p q:Int} (hn:p∉X.take t) (h:X[t]? = some q) (hq:q≠p):p∉X.take (t+1):=by
  obtain⟨ht,he⟩:=ay.1 h;rw[bM ht,he];simp[hn,Ne.symm hq]
def Nv (X:List Int) (p:Int):Nat:=if p∈X then X.idxOf p+1 else 0
theorem Kh (st:eU) (S:List UInt8) (A:Option Addr) (n k:Nat) (f:Bool) (z p:Int) (X:List Int) (w:World) (hr:Rs w S A n k st) (hX:rP st=z::X) (hl:st.length≤1000) :
    jL 93 #[.agg #[.string ⟨S.toArray⟩,.slice A n k,.bool f],.int .i64 p] w (.int .i64 (Nv X p:Int)):=by
  have hn:n=X.length+1:=by rw[hr.2.1,←wF,hX];rfl
  have hX1:X.length≤1000:=by have:=hr.2.1;omega
  have hd:=hr.2.2.rd;rw[hX] at hd;subst hn;clear hr;obtain⟨g,o,rfl,hg,hc⟩:∃g o,A=some ⟨g,o,none⟩∧g<w.heap.size∧∀j u,((z::X).map (Value.int .i64))[j]? = some u→w.cell? ⟨g,o+j,none⟩=some u:=by
    obtain⟨_,A',c',he,_,_,_,h2⟩:=hd
    cases he;exact h2 (by omega)
  have HC:=aa (ac hc hX);clear hc hd hX;go_enter Tryz.func93,Tryz.ntmps93;go_wp2_with fail;go_loopw [5] (fun i wr=>∃t:Nat,t≤X.length∧i=.int .i64 ((t+1:Nat):Int)∧p∉X.take t∧wr=w.alloc (.cells #[.string ⟨S.toArray⟩,.slice (some ⟨g,o,none⟩) (X.length+1) k,.bool f] 115)) (fun i _=>X.length+1-(intOf i).toNat)
  case atStart=>exact⟨0,by omega,rfl,by simp,rfl⟩
  case round=>
    obtain⟨t,ht,rfl,hnot,rfl⟩:=hrel;have HN:=aa hnot;clear hnot;have hgw:¬g=w.heap.size:=by omega
    by_cases htX:t<X.length
    ·obtain⟨q,hq⟩:∃q,X[t]? = some q:=⟨_,ax htX⟩;have y0:(w.alloc (.cells #[.string ⟨S.toArray⟩,.slice (some ⟨g,o,none⟩) (X.length+1) k,.bool f] 115)).cell? ⟨g,o+(t+1),none⟩=some (.int .i64 q):=
       ((aY (aC _ _) (au _) _).cell (p:=⟨g,o+(t+1),none⟩) hg).trans (HC.out.1 (t+1) _ (by rw[cz,cC,bc,hq];rfl))
     have HQ:=aa hq;clear hq;have v1:((t+1:Nat):Int)<((X.length+1:Nat):Int):=by omega
     have v2:(0:Int)≤((t+1:Nat):Int):=by omega
     have v3:(t:Int)+1<(X.length:Int)+1:=by omega
     have v4:(0:Int)≤(t:Int)+1:=by omega
     have v5:(t:Int)+1<((X.length+1:Nat):Int):=by omega
     have v6:(t:Int)<(X.length:Int):=by omega
     have v7:((t:Int)+1).toNat=t+1:=by omega
     by_cases hqp:q=p
     ·subst hqp;go_wp2_with fail;go_ret;obtain⟨h1,h2⟩:=Gn HN.out HQ.out;refine⟨?_,aY (aC _ _) (au _) _⟩;unfold Nv;rw[aD h1,h2];rfl
     ·have t1:(q==p)=false:=by simpa using hqp
      go_wp2_with fail;exact⟨⟨t+1,by omega,by go_num,Ef HN.out HQ.out hqp,by first|rfl|trivial⟩,by simp[intOf];omega⟩
    ·obtain rfl:t=X.length:=by omega
     go_wp2_with fail;go_ret;have hno:=HN.out;rw[bR (au _)] at hno;refine⟨?_,aY (aC _ _) (au _) _⟩;unfold Nv;rw[aB hno];rfl
theorem Dq (c:UInt8) (h:uM c=true):∃m:Nat,m<15∧eH c=(m:Int)∧([84,67,80,79,83,68,66,86,73,65,82,69,76,88,35]:List UInt8)[m]? = some c∧∀j,j<m→∀d,([84,67,80,79,83,68,66,86,73,65,82,69,76,88,35]:List UInt8)[j]? = some d→d≠c:=by
  obtain⟨m,h1,h2,h3⟩:=Bf c h;refine⟨m,h1,h2,h3,fun j hj d hd e=>?_⟩;subst e;have key:∀m:Nat,m<15→∀j:Nat,j<m→([84,67,80,79,83,68,66,86,73,65,82,69,76,88,35]:List UInt8)[j]? ≠ ([84,67,80,79,83,68,66,86,73,65,82,69,76,88,35]:List UInt8)[m]? := by decide +kernel
  exact key m h1 j hj (hd.trans h3.symm)
theorem LD (c:UInt8) (w:World) (hv:uM c=true) :
    iG 94 #[.int .u8 (c.toNat:Int)] w (.int .i64 (tj c)):=by
  by_cases h79:c.toNat=79
  ·have e:tj c=1:=by unfold tj eH kj;simp[h79]
   rw[e,h79];go_enter Tryz.func94,Tryz.ntmps94;go_wp2_with fail;go_ret;exact⟨rfl,rfl⟩
  ·by_cases h69:c.toNat=69
   ·have e:tj c=9:=by unfold tj eH kj;simp[h69]
    rw[e,h69];go_enter Tryz.func94,Tryz.ntmps94;go_wp2_with fail;go_ret;exact⟨rfl,rfl⟩
   ·obtain⟨m,hm,hmo,hl,hno⟩:=Dq c hv;have t1:((c.toNat:Int)==79)=false:=by rw[az];omega
    have t2:((c.toNat:Int)==69)=false:=by rw[az];omega
    have e:tj c=(m:Int):=by
      unfold tj kj;have h3:eH c≠3:=by
        have:=fg (fun c=>decide (eH c=3)==decide (c.toNat=79)) (by decide +kernel) c
        simp at this;exact fun hh=>h79 (this.1 hh)
      have h11:eH c≠11:=by
        have:=fg (fun c=>decide (eH c=11)==decide (c.toNat=69)) (by decide +kernel) c
        simp at this;exact fun hh=>h69 (this.1 hh)
      rw[aB h3,aB h11,hmo]
    rw[e];have HN:=aa (ac hl hno);clear e hmo hl hno h79 h69 hv;go_enter Tryz.func94,Tryz.ntmps94;go_wp2_with fail;go_loopw [3] (fun i wr=>∃t:Nat,t≤m∧i=.int .i64 t∧wr=w) (fun i _=>m+1-(intOf i).toNat)
    case atStart=>exact⟨0,by omega,rfl,rfl⟩
    case round=>
      obtain⟨t,ht,rfl,rfl⟩:=hrel;have v1:(t:Int)<15:=by omega
      have v2:(0:Int)≤(t:Int):=by omega
      have ht15:t<15:=by omega
      obtain⟨c0,hc0⟩:∃c0,([84,67,80,79,83,68,66,86,73,65,82,69,76,88,35]:List UInt8)[t]? = some c0:=⟨_,ax ht15⟩;have hL:∃h:t<(ByteArray.mk #[84,67,80,79,83,68,66,86,73,65,82,69,76,88,35]).size,(ByteArray.mk #[84,67,80,79,83,68,66,86,73,65,82,69,76,88,35])[t]'h=c0:=by
        obtain⟨h1,h2⟩:=ay.1 hc0;exact⟨ht15,h2⟩
      obtain⟨hL1,hL2⟩:=hL;have HC:=aa hc0;clear hc0;by_cases htm:t=m
      ·have hcc:c0=c:=by have h1:=HC.out;rw[htm,HN.out.1] at h1;exact(Option.some.inj h1).symm
       subst hcc;have hi:(t:Int)=(m:Int):=by omega
       have HI:=aa hi;clear hi htm;go_wp2_with fail;go_ret;exact⟨by rw[HI.out];rfl,rfl⟩
      ·have t3:((c0.toNat:Int)==(c.toNat:Int))=false:=by
         rw[az];intro e;exact HN.out.2 t (by omega) c0 HC.out (dc.1 (by omega))
       go_wp2_with fail;exact⟨⟨t+1,by omega,by go_num,by first|rfl|trivial⟩,by simp[intOf];omega⟩
structure SV where
  S:List UInt8
  A:Option Addr
  n:Nat
  k:Nat
  f:Bool
variable {B m b:Nat} {q:fh} {w w':World} (l:List UInt8) (T:List SV) (t:SV) (k:Nat) (U:List SV)
def Ej (t:SV):List Value:=[.string ⟨t.S.toArray⟩,.slice t.A t.n t.k,.bool t.f]
def Ei (T:List SV):List Value:=T.flatMap Ej
theorem z8:Ei (T++U)=Ei T++Ei U:=by simp[Ei]
theorem IB:Ei [t]=Ej t:=by simp[Ei]
theorem jd:∀(T:List SV) (i:Nat) (t:SV),T[i]? = some t→∀j u,(Ej t)[j]? = some u→(Ei T)[i*3+j]? = some u
  | [],i,t,h,_,_,_=>by simp at h
  | x::T,0,t,h,j,u,hu=>by
    simp at h;subst h;have hj:j<3:=(ay.1 hu).1;show (Ej x++Ei T)[0*3+j]? = _;rw[Nat.zero_mul,cM,aW hj];exact hu
  | x::T,i+1,t,h,j,u,hu=>by
    show (Ej x++Ei T)[(i+1)*3+j]? = _;have e:(Ej x).length=3:=rfl;rw[aX (by rw[e];omega),e,show (i+1)*3+j-3=i*3+j by omega];exact jd T i t (by simpa using h) j u hu
def AR (w:World) (B:Nat) (v:Value) (l:List UInt8) (m:Nat) (T:List SV):Prop:=
  T.length=m+1∧w.ownsRow B 115 3 v (m+1) (Ei T)∧∀i t,T[i]? = some t→Rs w t.S t.A t.n t.k (fY l i).1∧t.f=(fY l i).2
theorem AR.next {v:Value} {l:List UInt8} {T:List SV} (h:AR w B v l m T) (hb:Below w.heap.size w w'):AR w' B v l m T:=
  ⟨h.1,dS h.2.1 hb,fun i t hi=>⟨(h.2.2 i t hi).1.next hb,(h.2.2 i t hi).2⟩⟩
theorem Tryz.infoState:(Tryz.prog.info? 115).map (fun i=>(i.zero,i.size,i.bytes))=some (some (.agg #[.string ByteArray.empty,.slice none 0 0,.bool false]),3,48):=by kernel_rfl
theorem Lw:∀u∈Ej t,u.oneCell'=true:=by
  intro u hu;simp[Ej] at hu;rcases hu with rfl|rfl|rfl<;>rfl
theorem yC (l:List UInt8):∀f,(kz l f).length≤f
  | 0=>au _
  | f+1=>by
    have:=yC l f
    show (kz l f++_).length≤f+1;rw[aH];split<;>simp<;>omega
theorem xJ (n:Nat) (p:Int):∀(O:List fh) (k a:Nat) (u:Int) (q:fh),O[k]? = some q→D6 n p (O.take (k+1)) a u=if 1<n∧q.fr=p then ((a+k:Nat):Int) else D6 n p (O.take k) a u
  | [],k,a,u,q,h=>by simp at h
  | x::O,0,a,u,q,h=>by simp at h;subst h;simp[D6]
  | x::O,k+1,a,u,q,h=>by
    rw[cF,cF];unfold D6;rw[xJ n p O k (a+1) _ q (by simpa using h)];rw[show a+1+k=a+(k+1) by omega]
theorem xW (F:Nat→eU) (fr:Int) (n:Nat):∀(m k:Nat) (q:fh),(iT F fr n m k q).fr=q.fr
  | 0,_,_=>rfl
  | m+1,k,q=>by
    unfold iT;split
    ·rfl
    ·rw[xW F fr n m]
theorem ML:rS (fY l k).1=84::(FT l k).map (·.1):=by
  unfold rS;rw[←List.map_reverse,sP];rfl
def Pb (w:World) (b:Nat) (q:fh):Prop:=Bk w b 79 #[.int .i64 q.mode,.int .i64 q.fr,.int .i64 (tu q),.int .i64 q.up,.bool q.op]
theorem Pb.ten (h:Pb w b q):w.cell? ⟨b,0,none⟩=some (.int .i64 q.mode)∧w.cell? ⟨b,1,none⟩=some (.int .i64 q.fr)∧w.cell? ⟨b,2,none⟩=some (.int .i64 (tu q))∧w.cell? ⟨b,3,none⟩=some (.int .i64 q.up)∧w.cell? ⟨b,4,none⟩=some (.bool q.op) ∧
    w.frozen? ⟨b,0,none⟩=false∧w.frozen? ⟨b,1,none⟩=false∧w.frozen? ⟨b,2,none⟩=false∧w.frozen? ⟨b,3,none⟩=false∧w.frozen? ⟨b,4,none⟩=false:=
  ⟨by rw[Bk.cell h];rfl,by rw[Bk.cell h];rfl,by rw[Bk.cell h];rfl,by rw[Bk.cell h];rfl,by rw[Bk.cell h];rfl,Bk.frozen h _,Bk.frozen h _,Bk.frozen h _,Bk.frozen h _,Bk.frozen h _⟩
theorem Pb.drewN (h:Pb w b q) (n:Nat):Pb (w.drewN n) b q:=h
theorem Pb.mode (h:Pb w b q) (v:Int):Pb (w.setCell ⟨b,0,none⟩ (.int .i64 v)) b {q with mode:=v}:=by have:=Bk.set h 0 (.int .i64 v);unfold Pb;simpa [setTo,tu] using this
theorem Pb.to_ (h:Pb w b q) (v:Int):Pb (w.setCell ⟨b,2,none⟩ (.int .i64 v)) b (setTo q v):=by have:=Bk.set h 2 (.int .i64 v);unfold Pb;simpa [setTo,tu] using this
theorem Pb.up (h:Pb w b q) (v:Int):Pb (w.setCell ⟨b,3,none⟩ (.int .i64 v)) b {q with up:=v}:=by have:=Bk.set h 3 (.int .i64 v);unfold Pb;simpa [setTo,tu] using this
theorem Pb.op (h:Pb w b q) (v:Bool):Pb (w.setCell ⟨b,4,none⟩ (.bool v)) b {q with op:=v}:=by have:=Bk.set h 4 (.bool v);unfold Pb;simpa [setTo,tu] using this
theorem Pb.lt (h:Pb w b q):b<w.heap.size:=Bk.lt h
theorem NH (w:World) (hl:l.length≤900) :
    Calls Tryz.prog 52 #[.string ⟨l.toArray⟩] w fun e w'=>∃v,e=.returned v∧w'.ownsRow w.heap.size 79 5 v (kz l l.length).length (fw (kz l l.length))∧Below w.heap.size w w':=by
  obtain⟨ip,hip,hp0,hp1,hp2⟩:=cD Tryz.infoPart;obtain⟨is,his,hs0,hs1,hs2⟩:=cD Tryz.infoState;go_enter Tryz.func52,Tryz.ntmps52
  go_upto_region 2 with (first
    | (go_at_call 91;refine(xd _).mono ?_;rintro e w1 ⟨S1,A1,n1,k1,rfl,hx1,hb1⟩;have H1:=aa (ac hx1 hb1);clear hx1 hb1))
  obtain⟨hx1,hb1⟩:=H1.out;refine ki fun W hbW hkW hsW=>?_
  have hAR:AR W w.heap.size (.slice (some ⟨w1.heap.size,0,none⟩) 1 1) l 0 [⟨S1,A1,n1,k1,true⟩]:=by
    refine⟨rfl,⟨rfl,.inr ⟨w1.heap.size,1,_,rfl,hb1.size,hkW,au _,by unfold maxLen;omega,rfl,rfl⟩⟩,?_⟩;intro i t hi
    cases i with
    | zero=>simp at hi;subst hi;exact⟨hx1.next hbW,rfl⟩
    | succ i=>simp at hi
  have HW:=aa (ac hAR (hb1.trans (hbW.mono hb1.size)));clear hAR hbW hkW hsW hx1 hb1;go_wp2_with fail;go_loopw [4,3] (fun i s wx=>∃(m:Nat) (v:Value) (T:List SV),m≤l.length∧i=.int .i64 m∧s=v∧AR wx w.heap.size v l m T∧Below w.heap.size w wx) (fun i _ _=>l.length-(intOf i).toNat)
  case atStart=>exact⟨0,_,_,by omega,rfl,rfl,HW.out.1,HW.out.2⟩
  case round=>
    obtain⟨m,v,T,hm,rfl,rfl,har,hb⟩:=hrel;by_cases hml:m<l.length
    ·obtain⟨hT,hown,hst⟩:=har;obtain⟨A2,n2,c2,rfl⟩:=dR hown;obtain rfl:=ei hown;obtain⟨g,rfl⟩:=jb hown (by omega);obtain⟨t,ht⟩:∃t,T[m]? = some t:=⟨_,ax (by omega)⟩;have y0:wr.cell? ⟨g,m*3,none⟩=some (.string ⟨t.S.toArray⟩):=dW hown _ _ (jd T m t ht 0 _ rfl);have y1:=dW hown _ _ (jd T m t ht 1 _ rfl);have y2:=dW hown _ _ (jd T m t ht 2 _ rfl);obtain⟨hrs,hf⟩:=hst m t ht;rw[hf] at y2;obtain⟨b,hbl⟩:∃b,b=l.getD m 0:=⟨_,rfl⟩;have hL:∃h:m<(ByteArray.mk l.toArray).size,(ByteArray.mk l.toArray)[m]'h=b:=⟨hml,by rw[hbl,aE,ax hml];rfl⟩;obtain⟨hL1,hL2⟩:=hL;have u1:(m:Int)<(l.length:Int):=by omega
     have u2:(0:Int)≤(m:Int):=by omega
     have u3:(m:Int)<((m+1:Nat):Int):=by omega
     have u4:(m:Int)<(m:Int)+1:=by omega
     have hlen:=ji l m;have hbot:=kU l m;have HR:=aa (ac hown (ac hrs (ac hbot (ac hb (ac hst (ac hT hbl))))));clear hown hrs hbot hb hst hT ht hf hbl;go_upto_region 5 with fail
     go_wp2_with fail
     go_region_law (first
       | (go_simp;go_at_call 92;refine(tw _ _ _ _ (fY l m).1 _ b m _ (show Rs wr.drew _ _ _ _ _ from HR.out.2.1) HR.out.2.2.1 (by omega)).mono ?_;rintro e w2 ⟨S2,A2,n2,k2,rfl,hx2,hb2⟩;have H2:=aa (ac hx2 hb2);clear hx2 hb2)
       | (refine dV rfl (.tmp 19) (.tmp 29) 117 rfl w.heap.size 115 is _ 3 48 Tryz.underlying117 his hs0 hs1 hs2 rfl (by decide) (.slice (some ⟨g,0,none⟩) (m+1) c2) (m+1) (Ei T) (by simp[Act.eval]) ((dS (fy HR.out.1) H2.out.2).alloc _) (.slice (some ⟨w2.heap.size,0,none⟩) 1 1) 1 (w2.heap.size+1) (Ej ⟨S2,A2,n2,k2,(eG (fY l m).1 (fY l m).2 b m).2⟩) (by simp[Act.eval]) (fQ w2 (Ej ⟨S2,A2,n2,k2,(eG (fY l m).1 (fY l m).2 b m).2⟩) 115 3 1 rfl (by omega)) (Lw _) (by unfold maxLen;omega) (by omega) (by have h1:=HR.out.2.2.2.1.size;have h2:=H2.out.2.size;simp at h2 ⊢;omega) ?_;intro v5 w5 hown5 hg5 hv5;have H5:=aa (ac hown5 hg5);clear hown5 hg5 hv5))
     all_goals (
       go_wp2_with fail;obtain⟨hx2,hb2⟩:=H2.out;obtain⟨hown5,hg5⟩:=H5.out;obtain⟨hown,hrs,hbot,hb,hst,hT,hbl⟩:=HR.out;have hne:∀kk,(Value.slice (some ⟨g,0,none⟩) (m+1) c2).ownBlock=some kk→kk=g:=by intro kk hk;simpa [Value.ownBlock] using hk.symm
       have hblk:=lO ((dS (fy hown) hb2).alloc (.cells (Ej ⟨S2,A2,n2,k2,(eG (fY l m).1 (fY l m).2 b m).2⟩).toArray 115));have hkeep:∀(S':List UInt8) (A':Option Addr) (n' k':Nat) (st:eU),Rs w2 S' A' n' k' st→Rs w5 S' A' n' k' st:=fun S' A' n' k' st hr=>
         ⟨hr.1,hr.2.1,(hr.2.2.next ((aC _ _).alloc (au _) _)).keep hg5 (fun kk hk=>by obtain⟨cs,tt,fr,h1,h2⟩:=hblk kk hk;exact⟨tt,cs,fr,h1,by rw[h2];decide⟩)⟩
       have hstep:fY l (m+1)=eG (fY l m).1 (fY l m).2 b m:=by rw[hbl];rfl
       refine⟨⟨m+1,_,T++[⟨S2,A2,n2,k2,(eG (fY l m).1 (fY l m).2 b m).2⟩],by omega,by go_num,rfl,⟨by simp[hT],by rw[z8,IB];exact hown5,?_⟩,?_⟩,by simp[intOf];omega⟩
       ·intro i t' hi;by_cases hiT:i<T.length
        ·rw[aW hiT] at hi;obtain⟨h1,h2⟩:=hst i t' hi;exact⟨hkeep _ _ _ _ _ ((show Rs wr.drew _ _ _ _ _ from h1).next hb2),h2⟩
        ·rw[aX (by omega)] at hi;have hi0:i-T.length=0:=by
           have:=(ay.1 hi).1
           simp at this;omega
         rw[hi0] at hi;simp at hi;subst hi;have him:i=m+1:=by omega
         subst him;rw[hstep];exact⟨hkeep _ _ _ _ _ hx2,rfl⟩
       ·have hbw:Below w.heap.size w w2:=(show Below w.heap.size w wr.drew from hb.drew).trans (hb2.mono (show w.heap.size≤wr.drew.heap.size from hb.size))
        exact(hbw.alloc hbw.size _).grown hg5 (by have:=hbw.size;simp;omega) (fun j hj=>(hown.lt j hj).1))
    ·obtain rfl:m=l.length:=by omega
     have HA:=aa (ac har hb);clear har hb HW;obtain⟨wo,rfl⟩:∃wo:World,wo=wr:=⟨_,rfl⟩;go_wp2_with fail;go_loopw [6,5] (fun i o wx=>∃(m:Nat) (vo:Value),m≤l.length∧i=.int .i64 m∧o=vo∧wx.ownsRow wo.heap.size 79 5 vo (kz l m).length (fw (kz l m))∧Below wo.heap.size wo wx) (fun i _ _=>l.length-(intOf i).toNat)
     case atStart=>exact⟨0,_,by omega,rfl,rfl,cj _ _ _ _,aC _ _⟩
     case round=>
       obtain⟨m,vo,hm,rfl,rfl,ho,hb⟩:=hrel;by_cases hml:m<l.length
       ·obtain⟨hT,hown,hst⟩:=HA.out.1.next hb;obtain⟨A2,n2,c2,rfl⟩:=dR hown;obtain rfl:=ei hown;obtain⟨g,rfl⟩:=jb hown (by omega);obtain⟨t,ht⟩:∃t,T[m+1]? = some t:=⟨_,ax (by omega)⟩;have y0:wr.cell? ⟨g,(m+1)*3,none⟩=some (.string ⟨t.S.toArray⟩):=dW hown _ _ (jd T (m+1) t ht 0 _ rfl);have y1:=dW hown _ _ (jd T (m+1) t ht 1 _ rfl);have y2:=dW hown _ _ (jd T (m+1) t ht 2 _ rfl);obtain⟨hrs,hf⟩:=hst (m+1) t ht;have u1:(m:Int)<(l.length:Int):=by omega
        have u2:(0:Int)≤(m:Int):=by omega
        have u3:(m:Int)+1<((l.length+1:Nat):Int):=by omega
        have u4:(0:Int)≤(m:Int)+1:=by omega
        have u5:((m:Int)+1).toNat=m+1:=by omega
        have hlen:=ji l (m+1);have hrp:=yl l (m+1);have HR:=aa (ac hown (ac hrs (ac hrp (ac hb (ac hst (ac hT (ac ht ho)))))));clear hown hrs hrp hb hst hT ht hf ho;obtain⟨N,hN⟩:∃N,N=xF (FT l (m+1)) m:=⟨_,rfl⟩;have hX:Nv (eV (FT l (m+1))) (m:Int)=N:=hN.symm;have HX:=aa (ac hX hN);clear hX hN;by_cases hN0:N=0
        ·have t1:((N:Int)==0)=true:=by simpa using hN0
         have HN:=aa hN0;clear hN0
         go_wp2_with (first
           | (go_at_call 93;refine(Kh _ _ _ _ _ _ _ _ _ _ HR.out.2.1 HR.out.2.2.1 (by omega)).mono ?_;rintro e w1 ⟨he,hb1⟩;rw[HX.out.1] at he;subst he;have H1:=aa hb1;clear hb1))
         refine⟨⟨m+1,_,by omega,by go_num,rfl,?_,HR.out.2.2.2.1.trans (H1.out.mono HR.out.2.2.2.1.size)⟩,by simp[intOf];omega⟩;have e:kz l (m+1)=kz l m:=by show kz l m++_=_;rw[←HX.out.2,aD HN.out,bz]
         rw[e];exact dS HR.out.2.2.2.2.2.2.2 H1.out
        ·have t1:((N:Int)==0)=false:=by simpa using hN0
         have hN1:1≤N:=by omega
         clear hN0
         go_upto_region 13 with (first
           | (go_at_call 93;refine(Kh _ _ _ _ _ _ _ _ _ _ HR.out.2.1 HR.out.2.2.1 (by omega)).mono ?_;rintro e w1 ⟨he,hb1⟩;rw[HX.out.1] at he;subst he;have H1:=aa hb1;clear hb1))
         have hol:=yC l m;obtain⟨P,hP⟩:∃P,P=(eV (FT l (m+1))).getD (N-2) 0:=⟨_,rfl⟩;obtain⟨O,hO⟩:∃O,O=kz l m:=⟨_,rfl⟩;rw[←hO] at hol HR;have HPO:=aa (ac hP hO);clear hP hO;have hNX:N≤(eV (FT l (m+1))).length:=by
           rw[HX.out.2];unfold xF;split
           ·have:=dA ‹_›;omega
           ·omega
         have hXl:(eV (FT l (m+1))).length≤1000:=by
           have:=congrArg List.length HR.out.2.2.1
           rw[wF] at this;simp at this ⊢;omega
         have hbo1:Below wo.heap.size wo w1:=HR.out.2.2.2.1.trans (H1.out.mono HR.out.2.2.2.1.size);obtain⟨Ao,no,co,rfl⟩:=dR HR.out.2.2.2.2.2.2.2;obtain rfl:=ei HR.out.2.2.2.2.2.2.2;have H1A:=aa (ac (HA.out.1.next hbo1) (ac (dS HR.out.2.2.2.2.2.2.2 H1.out) hbo1));clear hbo1;obtain⟨X1,hX1⟩:∃n,n=(eV (FT l (m+1))).length:=⟨_,rfl⟩;rw[←hX1] at hNX hXl;have HX1:=aa hX1;clear hX1;refine ki fun W2 hbW2 hkW2 hsW2=>?_
         have hkP:Pb W2 w1.heap.size ⟨0,m,l.length, -1,true⟩:=hkW2;have HB:=aa (ac hkP hbW2);clear hkP hbW2 hkW2 hsW2 y0 y1 y2;obtain⟨wq,rfl⟩:∃wq:World,wq=wr:=⟨_,rfl⟩;go_wp2_with fail;go_loopw [9] (fun i wx=>∃(k:Nat) (u:Int),k≤O.length∧i=.int .i64 k∧u=D6 N P (O.take k) 0 (-1)∧Pb wx w1.heap.size ⟨0,m,l.length,u,true⟩∧Below w1.heap.size w1 wx) (fun i _=>O.length-(intOf i).toNat)
         case atStart=>exact⟨0, -1,by omega,rfl,rfl,HB.out.1,HB.out.2⟩
         case round=>
           obtain⟨k,u,hk,rfl,hu,hpb,hb3⟩:=hrel;by_cases hkO:k<O.length
           ·obtain⟨q,hq⟩:∃q,O[k]? = some q:=⟨_,ax hkO⟩;have hor:=dS H1A.out.2.1 hb3;obtain⟨go,rfl⟩:=jb hor (by omega);have hs:=xJ N P O k 0 (-1) q hq;rw[cM,←hu] at hs;have hup:=hpb.up;obtain⟨_,_,_,x3,_,_,_,_,z3,_⟩:=hpb.ten;have x1:wr.cell? ⟨go,k*5+1,none⟩=some (.int .i64 q.fr):=(rp hor hq).2.1;have v1:(k:Int)<(O.length:Int):=by omega
            have v2:(0:Int)≤(k:Int):=by omega
            have HQ:=aa (ac hs (ac hpb (ac hb3 (ac hup hu))));clear hs hpb hb3 hor hq hup hu;by_cases hN2:N=1
            ·have t2:decide ((1:Int)<(N:Int))=false:=by simp;omega
             have HN:=aa hN2;clear hN2;go_wp2_with fail;go_quiet (fail);go_wp2_with fail;refine⟨⟨k+1,u,by omega,by go_num,?_,HQ.out.2.1.drewN _,dN HQ.out.2.2.1 _⟩,by simp[intOf];omega⟩;rw[HQ.out.1,aB (by rw[HN.out];omega)]
            ·have t2:decide ((1:Int)<(N:Int))=true:=by simp;omega
             obtain⟨hT,hown,hst⟩:=H1A.out.1.next HQ.out.2.2.1;obtain⟨⟨S',A',n',k',f'⟩,ht'⟩:∃t',T[m+1]? = some t':=⟨_,ax (by omega)⟩;have w1':wr.cell? ⟨g,(m+1)*3+1,none⟩=some (.slice A' n' k'):=dW hown _ _ (jd T (m+1) _ ht' 1 _ rfl);obtain⟨hrs',_⟩:=hst (m+1) _ ht';have hxr:Rd wr wr.heap.size 1 (.slice A' n' k') n' ((rP (fY l (m+1)).1).map (.int .i64)):=hrs'.2.2.rd;have hn':n'=X1+1:=by have h2:n'=_:=hrs'.2.1;rw[h2,←wF,yl,HX1.out];rfl
             subst hn';obtain⟨gp,op,rfl,hgp,hcp⟩:=Kr hxr (by omega);have w2':wr.cell? ⟨gp,op+(N-1),none⟩=some (.int .i64 P):=hcp (N-1) _ (by
               rw[yl,cz,show N-1=(N-2)+1 by omega,cC,bc,HPO.out.1,aE,ax (by rw[←HX1.out];omega)];rfl)
             have v3:(N:Int)-1<((X1+1:Nat):Int):=by omega
             have v4:(0:Int)≤(N:Int)-1:=by omega
             have v5:((N:Int)-1).toNat=N-1:=by omega
             have v6:(1:Int)≤(N:Int):=by omega
             have v7:(N:Int)<((X1+1:Nat):Int)+1:=by omega
             have v8:IntKind.i64.wrap ((N:Int)-1)=(N:Int)-1:=aS _ (by omega);have v9:IntKind.i64.wrap ((m:Int)+1)=(m:Int)+1:=aS _ (by omega);have v10:(m:Int)+1<(l.length:Int)+1:=by omega
             have v11:(N:Int)-1<(X1:Int)+1:=by omega
             have v12:(N:Int)<(X1:Int)+1+1:=by omega
             have v13:(N:Int)-1≤(X1:Int):=by omega
             have hN3:1<N:=by omega
             clear hrs' hxr hcp hown hst ht' hN2 hT
             cases hqp:(q.fr==P)
             ·have HN:=aa hqp;go_wp2_with fail;go_quiet (fail);go_wp2_with fail;clear v8 v9;refine⟨⟨k+1,u,by omega,by go_num,?_,HQ.out.2.1.drewN _,dN HQ.out.2.2.1 _⟩,by simp[intOf];omega⟩;rw[HQ.out.1,aB (by have:=HN.out;simp at this;exact fun h=>this h.2)]
             ·have HN:=aa hqp;go_wp2_with fail;go_quiet (fail);go_wp2_with fail;clear v8 v9;refine⟨⟨k+1,(k:Int),by omega,by go_num,?_,(HQ.out.2.1.drewN _).up _,(dN HQ.out.2.2.1 _).setCell (au _) _⟩,by simp[intOf];omega⟩;rw[HQ.out.1,aD ⟨hN3,by have:=HN.out;simpa using this⟩]
           ·obtain rfl:k=O.length:=by omega
            rw[bR (au _)] at hu;have HQ:=aa (ac hpb (ac hb3 hu));clear hpb hb3 hu;obtain⟨R,hR⟩:∃R,R=iT (FT l) m N (l.length-m) (m+1) ⟨0,m,l.length,u,true⟩:=⟨_,rfl⟩;have hRf:R.fr=m:=by rw[hR,xW]
            have HRR:=aa (ac hR hRf);clear hR hRf;obtain⟨wz,rfl⟩:∃wz:World,wz=wr:=⟨_,rfl⟩;go_upto_block 6 with fail
            go_cut [] (fun wx=>Pb wx w1.heap.size R∧Below w1.heap.size w1 wx)
            case first=>
              go_wp2_with fail;go_loopw [10] (fun i wx=>∃(k:Nat) (q:fh),m+1≤k∧k≤l.length+1∧i=.int .i64 k∧iT (FT l) m N (l.length+1-k) k q=R∧Pb wx w1.heap.size q∧Below w1.heap.size w1 wx) (fun i _=>l.length+1-(intOf i).toNat)
              case atStart=>exact⟨m+1,_,au _,by omega,by go_num,by rw[HRR.out.1,show l.length+1-(m+1)=l.length-m by omega],HQ.out.1,HQ.out.2.1⟩
              case round=>
                obtain⟨k,q,hmk,hkl,rfl,hsc,hpb,hb4⟩:=hrel;by_cases hkL:k≤l.length
                ·obtain⟨hT,hown,hst⟩:=H1A.out.1.next hb4;obtain⟨⟨S',A',n',k',f'⟩,ht'⟩:∃t',T[k]? = some t':=⟨_,ax (by omega)⟩;have w0':wr.cell? ⟨g,k*3,none⟩=some (.string ⟨S'.toArray⟩):=dW hown _ _ (jd T k _ ht' 0 _ rfl);have w1':wr.cell? ⟨g,k*3+1,none⟩=some (.slice A' n' k'):=dW hown _ _ (jd T k _ ht' 1 _ rfl);have w2':wr.cell? ⟨g,k*3+2,none⟩=some (.bool f'):=dW hown _ _ (jd T k _ ht' 2 _ rfl);obtain⟨hrs',_⟩:=hst k _ ht';have hrs2:Rs wr S' A' n' k' (fY l k).1:=hrs';have v1:(k:Int)≤(l.length:Int):=by omega
                 have v2:(0:Int)≤(k:Int):=by omega
                 have v3:(k:Int)<((l.length+1:Nat):Int):=by omega
                 have v4:(k:Int)<(l.length:Int)+1:=by omega
                 have hlk:=ji l k;have hpb':=hpb;obtain⟨x0,_,x2,_,x4,z0,_,z2,_,z4⟩:=hpb.ten;obtain⟨M,hM⟩:∃M,M=xF (FT l k) m:=⟨_,rfl⟩;have hMX:Nv (eV (FT l k)) (m:Int)=M:=hM.symm;have hsu:l.length+1-k=(l.length-k)+1:=by omega
                 rw[hsu] at hsc;unfold iT at hsc;rw[←hM] at hsc;have hS:S'=84::(FT l k).map (·.1):=by rw[←ML];exact hrs2.1
                 have hvk:=sa l k;have HK:=aa (ac hsc (ac hpb' (ac hb4 (ac hMX (ac hrs2 (ac hS (ac hown hvk)))))));clear hsc hpb hpb' hb4 hMX hrs2 hrs' hS hown hst ht' hT hsu hvk;by_cases hM0:M=0
                 ·have t3:((M:Int)==0)=true:=by simpa using hM0
                  have HM:=aa hM0;clear hM0 hM
                  go_wp2_with (first
                    | (go_at_call 93;refine(Kh _ _ _ _ _ _ _ _ _ _ HK.out.2.2.2.2.1 (yl l k) (by omega)).mono ?_;rintro e w5 ⟨he,hb5⟩;rw[HK.out.2.2.2.1] at he;subst he;have hz5:w1.heap.size<w5.heap.size:=by have:=HK.out.2.1.lt;have:=hb5.size;omega
                       have hpb5:Pb w5 w1.heap.size q:=Bk.below HK.out.2.1 hb5 HK.out.2.1.lt;obtain⟨_,_,_,_,_,_,_,y7,_,y9⟩:=hpb5.ten;have H5:=aa (ac hb5 hpb5);clear hb5 hpb5))
                  go_meet;refine⟨?_,((HK.out.2.2.1.trans (H5.out.1.mono HK.out.2.2.1.size)).setCell (au _) _).setCell (au _) _⟩;have h2:=HK.out.1;rw[aD HM.out] at h2;rw[←h2]
                  exact(H5.out.2.to_ _).op _
                 ·have t3:((M:Int)==0)=false:=by simpa using hM0
                  have hmem:(m:Int)∈eV (FT l k):=dD fun h=>hM0 (by rw[hM];exact kn.2 h)
                  have hmem1:(m:Int)∈eV (FT l (m+1)):=dD fun h=>by have:=kn.2 h;rw[←HX.out.2] at this;omega
                  have hidx:=lj l m (N-1) (by rw[HX.out.2];exact(zO hmem1).1) k hmk hmem;rw[bc] at hidx;obtain⟨⟨c,pc⟩,hy⟩:∃y,(FT l k)[N-1]? = some y:=by
                    cases hy:(FT l k)[N-1]? with
                    | none=>rw[hy] at hidx;cases hidx
                    | some y=>exact⟨y,rfl⟩
                  have hSc:S'[N]? = some c:=by
                    rw[HK.out.2.2.2.2.2.1,show N=(N-1)+1 by omega,cC,bc,hy];rfl
                  have hval:uM c=true:=HK.out.2.2.2.2.2.2.2.all (c,pc) (by
                    have h1:(c,pc)∈(fY l k).1.reverse:=by rw[sP];exact bG _ (aO hy)
                    exact List.mem_reverse.1 h1)
                  have hgd:((FT l k).getD (N-1) (0,0)).1=c:=by rw[aE,hy];rfl
                  obtain⟨hNS,hNc⟩:=ay.1 hSc;have hL:∃h:N<(ByteArray.mk S'.toArray).size,(ByteArray.mk S'.toArray)[N]'h=c:=⟨hNS,hNc⟩;obtain⟨hL1,hL2⟩:=hL;have v5:(N:Int)<(S'.length:Int):=by omega
                  have v6:(0:Int)≤(N:Int):=by omega
                  have HM:=aa (ac hM0 (ac hgd (ac hval hM)));clear hM0 hM hmem hmem1 hidx hy hSc hval hgd hNc
                  go_wp2_with (first
                    | (go_at_call 93;refine(Kh _ _ _ _ _ _ _ _ _ _ HK.out.2.2.2.2.1 (yl l k) (by omega)).mono ?_;rintro e w5 ⟨he,hb5⟩;rw[HK.out.2.2.2.1] at he;subst he;have hz5:w1.heap.size<w5.heap.size:=by have:=HK.out.2.1.lt;have:=hb5.size;omega
                       have hpb5:Pb w5 w1.heap.size q:=Bk.below HK.out.2.1 hb5 HK.out.2.1.lt;obtain⟨_,_,_,_,_,y5,_,_,_,_⟩:=hpb5.ten;obtain⟨y0',_⟩:=hpb5.ten;have s0':w5.cell? ⟨g,k*3,none⟩=some (.string ⟨S'.toArray⟩):=(hb5.cell (p:=⟨g,k*3,none⟩) (gM HK.out.2.2.2.2.2.2.1).2.2.2.2).trans w0';have H5:=aa (ac hb5 hpb5);clear hb5 hpb5)
                    | (go_at_call 94;refine(LD c _ HM.out.2.2.1).mono ?_;rintro e w6 ⟨rfl,rfl⟩))
                  refine⟨⟨k+1,{q with mode:=tj c},by omega,by omega,by go_num,?_,H5.out.2.mode _,(HK.out.2.2.1.trans (H5.out.1.mono HK.out.2.2.1.size)).setCell (au _) _⟩,by simp[intOf];omega⟩;have h2:=HK.out.1;rw[aB HM.out.1,HM.out.2.1] at h2;rw[show l.length+1-(k+1)=l.length-k by omega];exact h2
                ·obtain rfl:k=l.length+1:=by omega
                 have HK:=aa (ac hsc (ac hpb hb4));clear hsc hpb hb4;have v1:decide (((l.length+1:Nat):Int)≤(l.length:Int))=false:=aL (by omega);go_wp2_with fail;go_meet;have h2:=HK.out.1;rw[Nat.sub_self] at h2;exact⟨by rw[←h2];exact HK.out.2.1,HK.out.2.2⟩
            case rest=>
              obtain⟨hpb,hb4⟩:=hcut;obtain⟨x0,_,x2,_,x4,z0,_,z2,_,z4⟩:=hpb.ten;have HP:=aa (ac hpb hb4);clear hpb hb4;go_upto_if 107 with fail
              go_cut [] (fun wx=>Pb wx w1.heap.size (nV l R)∧Below w1.heap.size w1 wx)
              case first=>
                by_cases h12:R.mode=12
                ·have t3:(R.mode==12)=true:=by simpa using h12
                 have HM:=aa h12;clear h12;have hpl:=wJ l (m+1);have v9:IntKind.i64.wrap ((m:Int)+1)=(m:Int)+1:=aS _ (by omega);go_wp2_with (
                   (go_at_call 95;refine(EK l (m+1) _ (by omega) (by omega)).mono ?_;rintro e w5 ⟨rfl,rfl⟩))
                 go_meet;refine⟨?_,(HP.out.2.setCell (au _) _).setCell (au _) _⟩;have e:nV l R={setTo R ((m:Int)+1+(pn l (m+1):Int)) with op:=false}:=by
                   unfold nV;rw[aD HM.out,HRR.out.2,show ((m:Int)+1).toNat=m+1 by omega];simp[setTo,HRR.out.2]
                 rw[e]
                 exact(HP.out.1.to_ _).op _
                ·have t3:(R.mode==12)=false:=by simpa using h12
                 have HM:=aa h12;clear h12;go_wp2_with fail;go_meet;refine⟨?_,HP.out.2⟩;unfold nV;rw[aB HM.out];exact HP.out.1
              case rest=>
                obtain⟨hpb,hb5⟩:=hcut;obtain⟨x0,x1,x2,x3,x4,_⟩:=hpb.ten;obtain⟨Q,hQ⟩:∃Q,Q=nV l R:=⟨_,rfl⟩;rw[←hQ] at hpb x0 x1 x2 x3 x4;have hor:=dS H1A.out.2.1 hb5;have hlt5:=hpb.lt;have HP2:=aa (ac hpb (ac hb5 (ac hor hQ)));clear hpb hb5 hor hQ;go_wp2_with (
                  (at_builtin
                   refine eD rfl (.tmp 117) (.tmp 119) 76 rfl wo.heap.size 79 ip _ 5 40 Tryz.underlying76 hip hp0 hp1 hp2 rfl (by decide) (.slice Ao O.length co) O.length (fw O) rfl (HP2.out.2.2.1.alloc _) (.slice (some ⟨wc.heap.size,0,none⟩) 1 1) 1 (wc.heap.size+1) (iq Q) rfl (fQ wc (iq Q) 79 5 1 rfl (by omega)) (yF Q) (by unfold maxLen;omega) (by omega) (by have:=HP2.out.2.1.size;have:=H1A.out.2.2.size;simp;omega) ?_;intro v6 w6 hown6 hg6 hv6;have hbel6:Below wo.heap.size wo w6:=((H1A.out.2.2.trans (HP2.out.2.1.mono H1A.out.2.2.size)).alloc (by have:=HP2.out.2.1.size;have:=H1A.out.2.2.size;omega) _).grown hg6 (by have:=HP2.out.2.1.size;have:=H1A.out.2.2.size;simp;omega) (fun j hj=>(HP2.out.2.2.1.lt j hj).1);have H6:=aa (ac hown6 hbel6);clear hown6 hg6 hv6 hbel6))
                refine⟨⟨m+1,_,by omega,by go_num,rfl,?_,H6.out.2⟩,by simp[intOf];omega⟩;have e:kz l (m+1)=O++[Q]:=by
                  show kz l m++_=_;rw[←HX.out.2,aB (by omega),←HPO.out.2];congr 2;unfold FD;rw[←HX.out.2,←HPO.out.1,HP2.out.2.2.2,HRR.out.1,HQ.out.2.2,HPO.out.2]
                rw[e];exact BU H6.out.1
       ·obtain rfl:m=l.length:=by omega
        have HR:=aa (ac ho hb);clear ho hb;go_wp2_with fail;go_ret;exact⟨_,rfl,fK HR.out.1 HA.out.2.size,HA.out.2.trans (HR.out.2.mono HA.out.2.size)⟩
theorem Nb (w:World) (hl:l.length≤900) :
    Calls Tryz.prog 52 #[.string ⟨l.toArray⟩] w fun e w'=>∃v,e=.returned v∧w'.ownsRow w.heap.size 79 5 v (eC l).length (fw (eC l))∧Below w.heap.size w w':=by
  rw[←tR];exact NH l w hl
end Go.Proofs.YtcagfamdoaoimaaGreatDoor
