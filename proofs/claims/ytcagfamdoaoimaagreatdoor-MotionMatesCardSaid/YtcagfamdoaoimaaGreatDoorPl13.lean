/- Tokens of any numbers: the bytes of one, and the leaves of a row (token.Text, token.Leaves). -/
import Derived.Test.YtcagfamdoaoimaaGreatDoorMem
import Derived.Test.YtcagfamdoaoimaaGreatDoorLa9
import Derived.Test.YtcagfamdoaoimaaGreatDoorPa0
set_option linter.unusedVariables false
set_option linter.unusedSimpArgs false
set_option maxRecDepth 100000
set_option maxHeartbeats 8000000
namespace Go.Proofs.YtcagfamdoaoimaaGreatDoor
open Go.RowKit
structure Tz where
  kd:Int
  fr:Int
  to:Int
  op:Bool
def Mw (t:Tz):List Value:=[.int .i64 t.kd,.int .i64 t.fr,.int .i64 t.to,.bool t.op]
theorem Iq (t:Tz):(Mw t).length=4:=rfl
def yZ (l:List UInt8) (t:Tz):Bool:=decide (0≤t.fr)&&decide (t.fr≤t.to)&&decide (t.to≤(l.length:Int))
def Is (l:List UInt8) (t:Tz):List UInt8:=if yZ l t=true then sub l t.fr.toNat t.to.toNat else []
structure Lf where
  kd:Int
  tx:List UInt8
  fr:Int
  to:Int
def LJ (x:Lf):List Value:=[.int .i64 x.kd,.string ⟨x.tx.toArray⟩,.int .i64 x.fr,.int .i64 x.to]
def iF (L:List Lf):List Value:=L.flatMap LJ
theorem yQ (L M:List Lf):iF (L++M)=iF L++iF M:=by simp[iF]
theorem FU (x:Lf):∀u∈iF [x],u.oneCell'=true:=by
  intro u hu;simp[iF,LJ] at hu;rcases hu with rfl|rfl|rfl|rfl<;>rfl
def jn (k:Int):Bool:=k==4||k==5||k==6||k==2
def kK (l:List UInt8) (t:Tz):List Lf:=if yZ l t=true∧jn t.kd=true then [⟨t.kd,Is l t,t.fr,t.to⟩] else []
def fG (l:List UInt8) (ts:List Tz):List Lf:=ts.flatMap (kK l)
theorem lQ (l:List UInt8):∀(ts:List Tz),(fG l ts).length≤ts.length
  | []=>au _
  | t::r=>by
    have:=lQ l r
    have h:(kK l t).length≤1:=by unfold kK;split<;>simp
    show (kK l t++fG l r).length≤_;rw[aH,aP];omega
theorem qH (l:List UInt8) (ts:List Tz) {k:Nat} {t:Tz} (h:ts[k]? = some t):fG l (ts.take (k+1))=fG l (ts.take k)++kK l t:=by
  rw[List.take_add_one,h];simp[fG]
theorem yY (l:List UInt8) (t:Tz) :
    (decide (t.fr<0)=true∧yZ l t=false)∨(decide (t.fr<0)=false∧decide (t.to<t.fr)=true∧yZ l t=false) ∨
    (decide (t.fr<0)=false∧decide (t.to<t.fr)=false∧decide ((l.length:Int)<t.to)=true∧yZ l t=false) ∨
    (decide (t.fr<0)=false∧decide (t.to<t.fr)=false∧decide ((l.length:Int)<t.to)=false∧yZ l t=true):=by
  unfold yZ;simp only[bW,decide_eq_false_iff_not,aT,Bool.and_eq_false_iff];omega
theorem IA (l:List UInt8) (t:Tz) (w:World) (hl:l.length≤9223372036854775807) :
    jL 57 #[.string ⟨l.toArray⟩,.agg #[.int .i64 t.kd,.int .i64 t.fr,.int .i64 t.to,.bool t.op]] w (.string ⟨(Is l t).toArray⟩):=by
  unfold Is;obtain⟨kd,fr,to,op⟩:=t;have hw:=yY l ⟨kd,fr,to,op⟩;generalize yZ l ⟨kd,fr,to,op⟩=b at hw ⊢;rcases hw with ⟨d0,rfl⟩|⟨d0,d1,rfl⟩|⟨d0,d1,d2,rfl⟩|⟨d0,d1,d2,rfl⟩
  iterate 3
    ·have d0:decide (fr<0)=_:=d0;try have d1:decide (to<fr)=_:=d1
     try have d2:decide ((l.length:Int)<to)=_:=d2
     go_enter Tryz.func57,Tryz.ntmps57;go_wp2;go_ret;exact⟨rfl,aY (aC _ _) (au _) _⟩
  ·have d0:decide (fr<0)=_:=d0;have d1:decide (to<fr)=_:=d1;have d2:decide ((l.length:Int)<to)=_:=d2;have e0:¬fr<0:=by simpa using d0
   have e1:¬to<fr:=by simpa using d1
   have e2:¬(l.length:Int)<to:=by simpa using d2
   have v0:(0:Int)≤fr:=by omega
   have v1:fr≤to:=by omega
   have v2:to≤(l.length:Int):=by omega
   rw[aD rfl];go_enter Tryz.func57,Tryz.ntmps57;go_wp2;go_ret;refine⟨?_,?_⟩
   ·rw[dX];rfl
   ·exact aY (aC _ _) (au _) _
theorem Tryz.infoLeaf:(Tryz.prog.info? 29).map (fun i=>(i.zero,i.size,i.bytes))=some (some (.agg #[.int .i64 0,.string ⟨#[]⟩,.int .i64 0,.int .i64 0]),4,40):=by kernel_rfl
theorem Bh (k:Int):((k==4)=true∧jn k=true)∨((k==4)=false∧(k==5)=true∧jn k=true)∨((k==4)=false∧(k==5)=false∧(k==6)=true∧jn k=true) ∨
    ((k==4)=false∧(k==5)=false∧(k==6)=false∧(k==2)=true∧jn k=true)∨((k==4)=false∧(k==5)=false∧(k==6)=false∧(k==2)=false∧jn k=false):=by
  unfold jn
  cases h4:k==4<;>cases h5:k==5<;>cases h6:k==6<;>cases h2:k==2<;>simp
theorem yS (l:List UInt8) (ts:List Tz) (A:Option Addr) (c:Nat) (w:World) (hl:l.length≤100000) (ht:ts.length≤100000) (hR:Rd w w.heap.size 4 (.slice A ts.length c) ts.length (ts.flatMap Mw)) :
    Calls Tryz.prog 32 #[.string ⟨l.toArray⟩,.slice A ts.length c] w fun e w'=>∃v,e=.returned v∧w'.ownsRow w.heap.size 29 4 v (fG l ts).length (iF (fG l ts))∧Below w.heap.size w w':=by
  obtain⟨i0,hi0,hz0,hz1,hz2⟩:=cD Tryz.infoLeaf;have H0:=aa hR;clear hR;go_enter Tryz.func32,Tryz.ntmps32;go_wp2;go_loopw [4,6,9] (fun o b i wr=>∃k:Nat,k≤ts.length∧i=.int .i64 k∧wr.ownsRow w.heap.size 29 4 o (fG l (ts.take k)).length (iF (fG l (ts.take k)))∧Below w.heap.size w wr) (fun o b i _=>ts.length-(intOf i).toNat)
  case atStart=>exact⟨0,bv _,rfl,cj _ _ _ _,aC _ _⟩
  case round=>
    obtain⟨k,hk,rfl,ho,hb⟩:=hrel;by_cases hlt:k<ts.length
    ·obtain⟨⟨kd,fr,to,op⟩,hget⟩:∃t,ts[k]? = some t:=⟨_,ax hlt⟩;obtain⟨g,q,rfl,_,hc⟩:=iK Iq (H0.out.keep hb (au _)) hget rfl;have y0:wr.cell? ⟨g,q+k*4,none⟩=some (.int .i64 kd):=hc 0 _ rfl;have y1:wr.cell? ⟨g,q+k*4+1,none⟩=some (.int .i64 fr):=hc 1 _ rfl;have y2:wr.cell? ⟨g,q+k*4+2,none⟩=some (.int .i64 to):=hc 2 _ rfl;have y3:wr.cell? ⟨g,q+k*4+3,none⟩=some (.bool op):=hc 3 _ rfl;have u1:(k:Int)<(ts.length:Int):=by omega
     have u2:(0:Int)≤(k:Int):=by omega
     have hlen:(fG l (ts.take k)).length≤100000:=by
       have:=lQ l (ts.take k)
       rw[cm] at this;omega
     have hsuc:=qH l ts hget;obtain⟨L,hL⟩:∃L,L=fG l (ts.take k):=⟨_,rfl⟩;have hleaf:∀b b',yZ l ⟨kd,fr,to,op⟩=b→jn kd=b'→kK l ⟨kd,fr,to,op⟩=if b=true∧b'=true then [⟨kd,Is l ⟨kd,fr,to,op⟩,fr,to⟩] else []:=by rintro b b' rfl rfl;rfl
     have htx:∀W,l.length≤9223372036854775807→jL 57 #[.string ⟨l.toArray⟩,.agg #[.int .i64 kd,.int .i64 fr,.int .i64 to,.bool op]] W (.string ⟨(Is l ⟨kd,fr,to,op⟩).toArray⟩):=IA l ⟨kd,fr,to,op⟩;rw[←hL] at hsuc ho hlen;have hways:(decide (fr<0)=true∧yZ l ⟨kd,fr,to,op⟩=false)∨(decide (fr<0)=false∧decide (to<fr)=true∧yZ l ⟨kd,fr,to,op⟩=false)∨(decide (fr<0)=false∧decide (to<fr)=false∧decide ((l.length:Int)<to)=true∧yZ l ⟨kd,fr,to,op⟩=false)∨(decide (fr<0)=false∧decide (to<fr)=false∧decide ((l.length:Int)<to)=false∧yZ l ⟨kd,fr,to,op⟩=true):=yY l ⟨kd,fr,to,op⟩;have kways:=Bh kd;generalize yZ l ⟨kd,fr,to,op⟩=bi at hways hleaf;generalize jn kd=bk at kways hleaf;have hleaf:=hleaf bi bk rfl rfl;obtain⟨X,hX⟩:∃X,X=Is l ⟨kd,fr,to,op⟩:=⟨_,rfl⟩;rw[←hX] at hleaf htx;obtain⟨A2,n2,c2,rfl⟩:=dR ho;obtain rfl:=ei ho;have HP:=aa (ac ho (ac hb (ac hsuc (ac hleaf htx))));clear ho hb hsuc hleaf htx hc hget hL hX;have hskip:kK l ⟨kd,fr,to,op⟩=[]→((∃m:Nat,m≤ts.length∧Value.int .i64 ((k:Int)+1)=.int .i64 m∧(wr.alloc (.cells #[.int .i64 kd,.int .i64 fr,.int .i64 to,.bool op] 54)).ownsRow w.heap.size 29 4 (.slice A2 L.length c2) (fG l (ts.take m)).length (iF (fG l (ts.take m)))∧Below w.heap.size w (wr.alloc (.cells #[.int .i64 kd,.int .i64 fr,.int .i64 to,.bool op] 54)))):=by
       intro h0;have hs:=HP.out.2.2.1;rw[h0,bz] at hs;refine⟨k+1,by omega,by go_num,?_,HP.out.2.1.alloc HP.out.2.1.size _⟩;rw[hs];exact HP.out.1.alloc _
     have HK:=aa hskip;clear hskip;rcases hways with ⟨d0,rfl⟩|⟨d0,d1,rfl⟩|⟨d0,d1,d2,rfl⟩|⟨d0,d1,d2,rfl⟩
     iterate 3
       ·clear kways hleaf;go_wp2_with fail;exact⟨HK.out (by rw[HP.out.2.2.2.1];simp),by simp[intOf];omega⟩
     ·rcases kways with ⟨k4,rfl⟩|⟨k4,k5,rfl⟩|⟨k4,k5,k6,rfl⟩|⟨k4,k5,k6,k2,rfl⟩|⟨k4,k5,k6,k2,rfl⟩
      iterate 4
        ·go_upto_region 10 with fail
         refine ki fun W hbW hkW hsW=>?_
         have hoW:=dS HP.out.1 hbW;have hbw:=HP.out.2.1.trans (hbW.mono HP.out.2.1.size);obtain⟨b0,b1,b2,b3⟩:W.cell? ⟨wr.heap.size,0,none⟩=some (.int .i64 kd)∧W.cell? ⟨wr.heap.size,1,none⟩=some (.int .i64 fr)∧W.cell? ⟨wr.heap.size,2,none⟩=some (.int .i64 to)∧W.cell? ⟨wr.heap.size,3,none⟩=some (.bool op):=
           ⟨by rw[hkW.cell];rfl,by rw[hkW.cell];rfl,by rw[hkW.cell];rfl,by rw[hkW.cell];rfl⟩
         have hne:some wr.heap.size≠(Value.slice A2 L.length c2).ownBlock:=fun h=>by have:=(HP.out.1.lt _ h.symm).2;omega
         have HW:=aa (ac hoW (ac hbw (ac hkW hne)));clear hoW hbw hbW hkW hsW hne y0 y1 y2 y3
         go_region_held3 (fun w'=>w'.cell? ⟨wr.heap.size,0,none⟩=some (.int .i64 kd)∧w'.cell? ⟨wr.heap.size,1,none⟩=some (.int .i64 fr)∧w'.cell? ⟨wr.heap.size,2,none⟩=some (.int .i64 to)∧w'.cell? ⟨wr.heap.size,3,none⟩=some (.bool op))
           (first
             | with_reducible exact⟨b0,b1,b2,b3⟩
             | go_keep)
           (first
             | (go_at_call 57;with_reducible refine(HP.out.2.2.2.2 _ (by omega)).mono ?_
                rintro e w5 ⟨rfl,hb5⟩;have hb6:Below W.heap.size W w5:=(dN (aC _ W) 1).trans hb5;have k5:=HW.out.2.2.1.below hb6 HW.out.2.2.1.lt;have o5:=dS HW.out.1 hb6;have w5b:=HW.out.2.1.trans (hb6.mono HW.out.2.1.size);obtain⟨b0,b1,b2,b3⟩:w5.cell? ⟨wr.heap.size,0,none⟩=some (.int .i64 kd)∧w5.cell? ⟨wr.heap.size,1,none⟩=some (.int .i64 fr)∧w5.cell? ⟨wr.heap.size,2,none⟩=some (.int .i64 to)∧w5.cell? ⟨wr.heap.size,3,none⟩=some (.bool op):=
                  ⟨by rw[k5.cell];rfl,by rw[k5.cell];rfl,by rw[k5.cell];rfl,by rw[k5.cell];rfl⟩
                have H5:=aa (ac k5 (ac o5 w5b));clear hb5 hb6 k5 o5 w5b)
             | (refine dV rfl (.tmp 37) (.tmp 48) 23 rfl w.heap.size 29 i0 _ 4 40 Tryz.underlying23 hi0 hz0 hz1 hz2 rfl (by decide) (.slice A2 L.length c2) L.length (iF L) (by simp[Act.eval]) (H5.out.2.1.alloc _) (.slice (some ⟨w5.heap.size,0,none⟩) 1 1) 1 (w5.heap.size+1) (iF [⟨kd,X,fr,to⟩]) (by simp[Act.eval]) (fQ w5 (iF [⟨kd,X,fr,to⟩]) 29 4 1 rfl (by omega)) (FU _) (by unfold maxLen;omega) (by omega) (by have:=H5.out.2.2.size;simp;omega) ?_;intro v6 w6 hown6 hg6 hv6;have k6:Bk w6 wr.heap.size 54 #[.int .i64 kd,.int .i64 fr,.int .i64 to,.bool op]:=(H5.out.1.alloc _).grown hg6 HW.out.2.2.2;obtain⟨b0,b1,b2,b3⟩:w6.cell? ⟨wr.heap.size,0,none⟩=some (.int .i64 kd)∧w6.cell? ⟨wr.heap.size,1,none⟩=some (.int .i64 fr)∧w6.cell? ⟨wr.heap.size,2,none⟩=some (.int .i64 to)∧w6.cell? ⟨wr.heap.size,3,none⟩=some (.bool op):=
                  ⟨by rw[k6.cell];rfl,by rw[k6.cell];rfl,by rw[k6.cell];rfl,by rw[k6.cell];rfl⟩
                have H6:=aa (ac hown6 hg6);clear hown6 hg6 hv6 k6))
         all_goals (
           go_wp2_with fail;have hs:=HP.out.2.2.1;rw[HP.out.2.2.2.1,aD (by simp)] at hs;refine⟨⟨k+1,by omega,by go_num,?_,?_⟩,by simp[intOf];omega⟩
           ·rw[hs,yQ,aH];exact H6.out.1
           ·exact cQ (H5.out.2.2.alloc H5.out.2.2.size _) H6.out.2 (by have:=H5.out.2.2.size;simp;omega) (fun kk hk=>(H5.out.2.1.lt kk hk).1))
      ·go_wp2_with fail;exact⟨HK.out (by rw[HP.out.2.2.2.1];simp),by simp[intOf];omega⟩
    ·obtain rfl:k=ts.length:=by omega
     rw[dy] at ho;have HP:=aa (ac ho hb);clear ho hb;go_wp2_with fail;go_ret;exact⟨_,rfl,HP.out⟩
section
def ny (s:List UInt8):UInt8:=
  if s=[33]∨s=[123]∨s=[125] then s.getD 0 0 else if s=[105,102] then 105 else if s=[116,104,101,110] then 116 else if s=[101,108,105,102] then 101
  else if s=[101,108,115,101] then 108 else if s=[102,105] then 102 else if s=[119,104,105,108,101]∨s=[117,110,116,105,108] then 119 else if s=[100,111] then 100
  else if s=[100,111,110,101] then 103 else if s=[102,111,114] then 114 else if s=[105,110] then 107 else if s=[99,97,115,101] then 99 else if s=[101,115,97,99] then 122 else 120
def Dk:Nat→UInt8
  | 0=>63|1=>97|2=>111|3=>121|13=>38|14=>59|15=>124|16=>40|17=>41|_=>60
def uS (x:Lf):UInt8:=if x.kd=2 then 110 else if x.kd=4 then Dk (iu x.tx) else if x.kd=5 then 35 else if x.kd=6 then ny x.tx else 63
def sg (F:List Lf) (i:Nat):UInt8:=match F[i]? with|some x=>uS x|none=>0
def iM (F:List Lf) (i:Nat):Bool:=match F[i]? with|some x=>x.kd==6|none=>false
def tx (F:List Lf) (i:Nat):List UInt8:=match F[i]? with|some x=>x.tx|none=>[]
def i4 (s:List UInt8):Bool:=s != []&&se s 0==s.length
def lI (s:List UInt8):Bool:=se s 0 != 0&&se s 0 != s.length&&s.getD (se s 0) 0==61
structure Nd where
  kd:Nat
  fr:Nat
  tt:Nat
  up:Int
structure Ps where
  p:Nat
  l:List Nd
  up:Int
  deep:Nat
def iQ:List Nd→Nat→Nat→List Nd
  | [],_,_=>[]
  | n::r,0,t=>{n with tt:=t}::r
  | n::r,i+1,t=>n::iQ r i t
theorem gX:∀(l:List Nd) (i t:Nat),(iQ l i t).length=l.length
  | [],_,_=>rfl
  | n::r,0,t=>rfl
  | n::r,i+1,t=>by simp[iQ,gX r i t]
def nO {σ:Type} (c:σ→σ×Bool):Nat→σ→σ
  | 0,s=>s
  | k+1,s=>if (c s).2=true then nO c k (c s).1 else (c s).1
theorem ua {σ:Type} {c:σ→σ×Bool} {m:σ→Nat} {N:Nat} (h:∀s,m s≤N→(c s).2=true→m s<m (c s).1∧m (c s).1≤N):∀k k' s,m s≤N→N<k+m s→N<k'+m s→nO c k s=nO c k' s
  | 0,k',s,h0,h1,h2=>by omega
  | k+1,0,s,h0,h1,h2=>by omega
  | k+1,k'+1,s,h0,h1,h2=>by
    unfold nO;by_cases hc:(c s).2=true
    ·have:=h s h0 hc
     rw[aD hc,aD hc,ua h k k' _ this.2 (by omega) (by omega)]
    ·rw[aB hc,aB hc]
def eO (N:Nat) (c:Ps→Ps×Bool) (s:Ps):Ps:=nO c (N+1-s.p) s
theorem yP {N:Nat} {c:Ps→Ps×Bool} (h:∀s,s.p≤N→(c s).2=true→s.p<(c s).1.p∧(c s).1.p≤N) (s:Ps) (hs:s.p≤N):eO N c s=if (c s).2=true then eO N c (c s).1 else (c s).1:=by
  unfold eO;obtain⟨k,hk⟩:∃k,N+1-s.p=k+1:=⟨N-s.p,by omega⟩;rw[hk];show (if (c s).2=true then nO c k (c s).1 else (c s).1)=_;by_cases hc:(c s).2=true
  ·have:=h s hs hc
   rw[aD hc,aD hc,ua (m:=Ps.p) h k (N+1-(c s).1.p) _ this.2 (by omega) (by omega)]
  ·rw[aB hc,aB hc]
section
variable (F:List Lf)
def dQ (cs:List UInt8) (s:Ps):Bool:=cs.contains (sg F s.p)
def dM (s:Ps):Ps:={s with p:=s.p+1}
def eB (cs:List UInt8) (s:Ps):Ps:=if dQ F cs s=true then dM s else s
def dO (k:Nat) (f:Ps→Ps) (s:Ps):Ps:=
  let s2:=f {s with l:=s.l++[⟨k,s.p,0,s.up⟩],up:=(s.l.length:Int)}
  {s2 with up:=s.up,l:=iQ s2.l s.l.length s2.p}
def kJ (k:Nat) (f:Ps→Ps) (s:Ps):Ps:=
  let s2:=dO k f {s with deep:=s.deep+1}
  {s2 with deep:=s2.deep-1}
def eS (s:Ps):Ps:=dO 18 id s
def eF (c:UInt8) (s:Ps):Ps:=if dQ F [c] s=true then dM s else eS s
def ez (k:Nat) (s:Ps):Ps:=dO k dM s
def eE (s:Ps):Ps:=if iM F s.p=true then ez 7 s else eS s
def dK (s:Ps):Ps:=eO F.length (fun s=>if dQ F [110] s=true then (dM s,true) else (s,false)) s
def eK (s:Ps):Bool:=sg F s.p==60||sg F s.p==35&&sg F (s.p+1)==60
def gu (s:Ps):Bool:=decide (s.deep<200)&&dQ F [123,40,105,119,114,99] s
def ng (s:Ps):Bool:=sg F s.p==120||(eK F s||gu F s)
def fq (s:Ps):Bool:=sg F s.p==33||ng F s
def mW (s:Ps):Bool:=sg F s.p==120&&(sg F (s.p+1)==40&&(decide (s.deep<200)&&i4 (tx F s.p)))
def fI (s:Ps):Ps:=dO 8 (fun s=>eE F (eB F [60] (eB F [35] s))) s
def gw (s:Ps):Ps:=eO F.length (fun s=>if eK F s=true then (fI F s,true) else (s,false)) s
def iA (s:Ps):Ps:=eO F.length (fun s=>if eK F s=true then (fI F s,true) else if iM F s.p=true then (ez 7 s,true) else (s,false)) s
def fP (s:Ps):Ps:=
  let s1:=eO F.length (fun s=>if eK F s=true then (fI F s,true) else if (iM F s.p&&lI (tx F s.p))=true then (ez 6 s,true) else (s,false)) s
  if iM F s1.p=true then iA F (ez 7 s1) else s1
variable (L:Ps→Ps)
def eM (s:Ps):Ps:=if fq F (dK F s)=true then dO 2 L (dK F s) else eS (dK F s)
def mE (s:Ps):Ps:=
  let s1:=eO F.length (fun s=>if dQ F [101] s=true then (eM F L (eF F 116 (eM F L (dM s))),true) else (s,false)) (eM F L (eF F 116 (eM F L s)))
  eF F 102 (if dQ F [108] s1=true then eM F L (dM s1) else s1)
def xE (s:Ps):Ps:=eF F 103 (eM F L (eF F 100 s))
def jA (s:Ps):Ps:=eO F.length (fun s=>if iM F s.p=true then (ez 7 s,true) else (s,false)) s
def za (s:Ps):Ps:=
  let s1:=jA F (dM s)
  if dQ F [59] s1=true then dK F (dM s1) else if dQ F [110] s1=true then dK F s1 else eS s1
def gF (s:Ps):Ps:=
  let s1:=if (iM F s.p&&i4 (tx F s.p))=true then ez 7 s else eS s
  xE F L (if dQ F [59] s1=true then dK F (dM s1) else if dQ F [107] (dK F s1)=true then za F (dK F s1) else dK F s1)
def dZ (s:Ps):Ps:=
  let s1:=dK F (eF F 41 (eO F.length (fun s=>if dQ F [124] s=true then (eE F (dM s),true) else (s,false)) (eE F (eB F [40] s))))
  if fq F s1=true then dO 2 L s1 else s1
def f7 (s:Ps):Bool:=sg F s.p==40||iM F s.p&&sg F s.p != 122
def jw (s:Ps):Ps:=
  eF F 122 (eO F.length (fun s=>if f7 F s=true then (if dQ F [121] (dO 15 (dZ F L) s)=true then (dK F (dM (dO 15 (dZ F L) s)),true) else (dO 15 (dZ F L) s,false)) else (s,false)) (dK F (eF F 107 (dK F (eE F s)))))
def mS (c:UInt8) (s:Ps):Ps:=
  if c=40 then eF F 41 (eM F L s) else if c=105 then mE F L s else if c=119 then xE F L (eM F L s) else if c=114 then gF F L s else if c=99 then jw F L s else eF F 125 (eM F L s)
def sI (c:UInt8):Nat:=if c=40 then 10 else if c=105 then 11 else if c=119 then 12 else if c=114 then 13 else if c=99 then 14 else 9
def gT (s:Ps):Ps:=kJ (sI (sg F s.p)) (fun t=>gw F (mS F L (sg F s.p) (dM t))) s
def my (s:Ps):Ps:=
  let s1:=dK F (eF F 41 (eB F [40] (eE F s)))
  if gu F s1=true then gT F L s1 else eS s1
def iS (s:Ps):Ps:=if gu F s=true then gT F L s else if mW F s=true then kJ 16 (my F L) s else if ng F s=true then dO 5 (fP F) s else eS s
def jF (s:Ps):Ps:=eO F.length (fun s=>if dQ F [124] s=true then (iS F L (dK F (dM s)),true) else (s,false)) (iS F L (eB F [33] s))
def jE (s:Ps):Ps:=if fq F s=true then dO 4 (jF F L) s else eS s
def eR (s:Ps):Ps:=eO F.length (fun s=>if dQ F [97,111] s=true then (jE F L (dK F (dM s)),true) else (s,false)) (jE F L s)
def gZ (s:Ps):Ps×Bool:=if dQ F [59,38] s=true then (dK F (dM s),fq F (dK F (dM s))) else if dQ F [110] s=true then (dK F s,fq F (dK F s)) else (s,false)
def gP (s:Ps):Ps:=eO F.length (fun s=>gZ F (dO 3 (eR F L) s)) s
end
def wU (F:List Lf):Nat→Ps→Ps
  | 0=>id
  | n+1=>gP F (wU F n)
def NG (k x y:Nat):Prop:=1≤k∧k≤18∧(k=17→y=x+1)∧(k=18→y=x)
inductive Fo:Nat→Int→Nat→Nat→List Nd→Prop
  | nil {b:Nat} {u:Int} {a c:Nat}:a≤c→Fo b u a c []
  | cons {b:Nat} {u:Int} {a c k x y:Nat} {ks r:List Nd}:a≤x→x≤y→NG k x y→Fo (b+1) (b:Int) x y ks→Fo (b+1+ks.length) u y c r→Fo b u a c (⟨k,x,y,u⟩::(ks++r))
theorem Fo.le {b:Nat} {u:Int} {a c:Nat} {l:List Nd} (h:Fo b u a c l):a≤c:=by
  induction h with
  | nil h=>exact h
  | cons h1 h2 _ _ _ _ ih=>omega
theorem Fo.app {b:Nat} {u:Int} {a c:Nat} {l:List Nd} (h:Fo b u a c l):∀{d:Nat} {m:List Nd},Fo (b+l.length) u c d m→Fo b u a d (l++m):=by
  induction h with
  | nil h=>
    intro d m k
    cases k with
    | nil k=>exact .nil (by omega)
    | cons k1 k2 k3 k4 k5=>exact .cons (by omega) k2 k3 k4 k5
  | @cons b u a c k x y ks r h1 h2 h3 h4 h5 _ ih=>
    intro d m hm;rw[bu,cO];refine .cons h1 h2 h3 h4 (ih ?_);simp only[aP,aH] at hm
    rwa [show b+1+ks.length+r.length=b+(ks.length+r.length+1) by omega]
theorem Fo.mono {b:Nat} {u:Int} {a a' c:Nat} {l:List Nd} (h:Fo b u a c l) (ha:a'≤a):Fo b u a' c l:=by
  cases h with
  | nil h=>exact .nil (by omega)
  | cons h1 h2 h3 h4 h5=>exact .cons (by omega) h2 h3 h4 h5
theorem sW (l:List Nd) (n:Nd) (r:List Nd) (t:Nat):iQ (l++n::r) l.length t=l++{n with tt:=t}::r:=by
  induction l with
  | nil=>rfl
  | cons a l ih=>show a::iQ (l++n::r) l.length t=_;rw[ih];rfl
structure Gd (N B:Nat) (s t:Ps):Prop where
  p:s.p≤t.p
  N:t.p≤N
  l:s.l.length≤t.l.length
  b:t.l.length+16*s.p≤s.l.length+16*t.p+B
  up:t.up=s.up
  dp:t.deep=s.deep
  f:∃m,t.l=s.l++m∧Fo s.l.length s.up s.p t.p m
theorem Gd.refl {N:Nat} {s:Ps} (h:s.p≤N):Gd N 0 s s:=⟨au _,h,au _,by omega,rfl,rfl,[],by simp,.nil (au _)⟩
theorem Gd.trans {N A B:Nat} {s t u:Ps} (h:Gd N A s t) (k:Gd N B t u):Gd N (A+B) s u:=by
  refine⟨aA h.p k.p,k.N,aA h.l k.l,by have:=h.b;have:=k.b;omega,k.up.trans h.up,k.dp.trans h.dp,?_⟩;obtain⟨m,h1,h2⟩:=h.f;obtain⟨m',k1,k2⟩:=k.f;rw[h.up,h1,aH] at k2;exact⟨m++m',by rw[k1,h1,cO],h2.app k2⟩
theorem Gd.mono {N A B:Nat} {s t:Ps} (h:Gd N A s t) (hab:A≤B):Gd N B s t:=⟨h.p,h.N,h.l,by have:=h.b;omega,h.up,h.dp,h.f⟩
theorem Gd.next {N:Nat} {s:Ps} (h:s.p<N):Gd N 0 s (dM s)∧s.p<(dM s).p∧(dM s).l.length+16*s.p+16≤s.l.length+16*(dM s).p:=⟨⟨cg _,h,au _,by show s.l.length+16*s.p≤s.l.length+16*(s.p+1)+0;omega,rfl,rfl,[],by simp[dM],.nil (cg _)⟩,dH _,by show s.l.length+16*s.p+16≤s.l.length+16*(s.p+1);omega⟩
theorem Gd.paid {N A:Nat} {s t:Ps} (h:s.p<N) (k:Gd N A (dM s) t) (hA:A≤16):Gd N 0 s t∧s.p<t.p:=by
  have h1:=k.p;have h2:=k.b;have h3:(dM s).p=s.p+1:=rfl;have h4:(dM s).l=s.l:=rfl;obtain⟨m,h5,h6⟩:=k.f;rw[h3] at h1 h2 h6;rw[h4] at h2 h5 h6;exact⟨⟨by omega,k.N,by rw[←h4];exact k.l,by omega,k.up,k.dp,m,h5,h6.mono (by omega)⟩,by omega⟩
theorem Gd.node {N A k:Nat} {s:Ps} {f:Ps→Ps} (h:Gd N A {s with l:=s.l++[⟨k,s.p,0,s.up⟩],up:=(s.l.length:Int)} (f {s with l:=s.l++[⟨k,s.p,0,s.up⟩],up:=(s.l.length:Int)})) (hk:NG k s.p (f {s with l:=s.l++[⟨k,s.p,0,s.up⟩],up:=(s.l.length:Int)}).p):Gd N (A+1) s (dO k f s):=by
  have h1:=h.p;have h2:=h.l;have h3:=h.b;obtain⟨m,h4,h5⟩:=h.f;simp only[aH,cR] at h2 h3 h5
  refine⟨h1,h.N,by show _≤(iQ _ _ _).length;rw[gX];omega,by show (iQ _ _ _).length+_≤_;rw[gX];show _+16*s.p≤s.l.length+16*(f _).p+_;omega,rfl,h.dp,
    ⟨k,s.p,(f {s with l:=s.l++[⟨k,s.p,0,s.up⟩],up:=(s.l.length:Int)}).p,s.up⟩::m,?_,?_⟩
  ·show iQ (f {s with l:=s.l++[⟨k,s.p,0,s.up⟩],up:=(s.l.length:Int)}).l s.l.length (f {s with l:=s.l++[⟨k,s.p,0,s.up⟩],up:=(s.l.length:Int)}).p=_;rw[h4,cO,List.singleton_append,sW]
  ·have:=Fo.cons (u:=s.up) (au s.p) h5.le hk h5 (.nil (au _))
   rw[bz] at this;exact this
theorem Gd.node0 {N A k:Nat} {s:Ps} {f:Ps→Ps} (h:∀t:Ps,t.p=s.p→t.deep=s.deep→Gd N A t (f t)) (hk:1≤k∧k≤16:=by decide):Gd N (A+1) s (dO k f s):=Gd.node (h _ rfl rfl) ⟨hk.1,by omega,fun e=>by omega,fun e=>by omega⟩
theorem Gd.nest {N A k:Nat} {s:Ps} {f:Ps→Ps} (h:∀t:Ps,t.p=s.p→t.deep=s.deep+1→Gd N A t (f t)) (hk:1≤k∧k≤16:=by decide):Gd N (A+1) s (kJ k f s):=by
  have h1:=Gd.node0 (k:=k) (s:={s with deep:=s.deep+1}) h hk;exact⟨h1.p,h1.N,h1.l,h1.b,h1.up,by show (dO k f {s with deep:=s.deep+1}).deep-1=s.deep;rw[h1.dp];rfl,h1.f⟩
def LC (N B:Nat) (s:Ps) (r:Ps×Bool):Prop:=(r.2=true→Gd N 0 s r.1∧s.p<r.1.p)∧(r.2=false→Gd N B s r.1)
theorem LC.yes {N B:Nat} {s t:Ps} (h:Gd N 0 s t∧s.p<t.p):LC N B s (t,true):=⟨fun _=>h,fun h=>by cases h⟩
theorem LC.no {N B:Nat} {s t:Ps} (h:Gd N B s t):LC N B s (t,false):=⟨fun h=>(by cases h),fun _=>h⟩
theorem LC.ite {N B:Nat} {s:Ps} {r r':Ps×Bool} {b:Bool} (h:b=true→LC N B s r) (k:b=false→LC N B s r'):LC N B s (if b=true then r else r'):=by
  cases b
  ·exact k rfl
  ·exact h rfl
theorem Gd.ite {N B:Nat} {s r r':Ps} {b:Bool} (h:b=true→Gd N B s r) (k:b=false→Gd N B s r'):Gd N B s (if b=true then r else r'):=by
  cases b
  ·exact k rfl
  ·exact h rfl
theorem Gd.loop {N:Nat} {c:Ps→Ps×Bool} {B:Nat} (h:∀s,s.p≤N→LC N B s (c s)):∀m s,N-s.p=m→s.p≤N→Gd N B s (eO N c s):=by
  intro m
  induction m using Nat.strongRecOn with
  | _ m ih=>
    intro s hm hs;rw[yP (fun s hs hc=>⟨((h s hs).1 hc).2,((h s hs).1 hc).1.N⟩) s hs];by_cases hc:(c s).2=true
    ·rw[aD hc];have h1:=(h s hs).1 hc;have h2:=h1.1.N;simpa using h1.1.trans (ih _ (by omega) _ rfl h2)
    ·rw[aB hc]
     exact(h s hs).2 (by simpa using hc)
theorem LC.eq {N B:Nat} {c:Ps→Ps×Bool} (h:∀s,s.p≤N→LC N B s (c s)) (s:Ps) (hs:s.p≤N):eO N c s=if (c s).2=true then eO N c (c s).1 else (c s).1:=
  yP (fun s hs hc=>⟨((h s hs).1 hc).2,((h s hs).1 hc).1.N⟩) s hs
theorem tB {F:List Lf} {i:Nat} (h:sg F i≠0):i<F.length:=by
  unfold sg at h;refine Nat.lt_of_not_le fun hi=>?_
  rw[bY hi] at h;exact h rfl
theorem eh {F:List Lf} {cs:List UInt8} {s:Ps} (hc:dQ F cs s=true) (h0:cs.contains 0=false):s.p<F.length:=by
  refine tB fun e=>?_
  unfold dQ at hc;rw[e,h0] at hc
  cases hc
theorem fR {F:List Lf} {i:Nat} (h:iM F i=true):i<F.length:=by
  unfold iM at h;refine Nat.lt_of_not_le fun hi=>?_
  rw[bY hi] at h
  cases h
section
variable {F:List Lf}
theorem gr {cs:List UInt8} (h0:cs.contains 0=false) {s:Ps} (hs:s.p≤F.length):Gd F.length 0 s (eB F cs s):=by
  unfold eB;by_cases hc:dQ F cs s=true
  ·rw[aD hc];exact(Gd.next (eh hc h0)).1
  ·rw[aB hc];exact Gd.refl hs
theorem ig {s:Ps} (hs:s.p≤F.length):Gd F.length 1 s (eS s):=Gd.node (A:=0) (Gd.refl hs) ⟨by decide,by decide,fun e=>(by cases e),fun _=>rfl⟩
theorem fW {k:Nat} {s:Ps} (hs:s.p<F.length) (hk:1≤k∧k≤17:=by decide):Gd F.length 1 s (ez k s)∧s.p<(ez k s).p∧Gd F.length 0 s (ez k s):=by
  have h:Gd F.length 0 _ _:=(Gd.next (N:=F.length) (s:={s with l:=s.l++[⟨k,s.p,0,s.up⟩],up:=(s.l.length:Int)}) hs).1;have h1:=Gd.node h ⟨hk.1,by omega,fun _=>rfl,fun e=>by omega⟩;refine⟨h1,dH _,h1.p,h1.N,h1.l,?_,h1.up,h1.dp,h1.f⟩;show (iQ _ _ _).length+_≤_;rw[gX];show (s.l++_).length+16*s.p≤s.l.length+16*(s.p+1)+0;simp;omega
theorem fO {c:UInt8} (h0:c≠0) {s:Ps} (hs:s.p≤F.length):Gd F.length 1 s (eF F c s):=by
  unfold eF;by_cases hc:dQ F [c] s=true
  ·rw[aD hc];exact(Gd.next (eh hc (by simpa using h0.symm))).1.mono (by omega)
  ·rw[aB hc];exact ig hs
theorem ie {s:Ps} (hs:s.p≤F.length):Gd F.length 1 s (eE F s):=by
  unfold eE;by_cases hc:iM F s.p=true
  ·rw[aD hc];exact(fW (fR hc)).1
  ·rw[aB hc];exact ig hs
end
section
variable {F:List Lf}
theorem kV:∀s:Ps,s.p≤F.length→LC F.length 0 s (if dQ F [110] s=true then (dM s,true) else (s,false)):=fun s hs=>
  LC.ite (fun hc=>LC.yes ⟨(Gd.next (eh hc (by decide))).1,dH _⟩) (fun _=>LC.no (Gd.refl hs))
theorem dY {s:Ps} (hs:s.p≤F.length):Gd F.length 0 s (dK F s):=Gd.loop kV _ s rfl hs
theorem tF {s:Ps} (h:eK F s=true):s.p<F.length:=by
  refine tB fun e=>?_
  unfold eK at h;rw[e] at h;simp at h
theorem ER {s:Ps} (h:eK F s=true):s.p<(eB F [60] (eB F [35] s)).p:=by
  unfold eK at h;unfold eB dQ;by_cases h1:sg F s.p=60
  ·rw[h1];simp[dM,h1]
  ·have h2:(sg F s.p==60)=false:=by simpa using h1
   rw[h2] at h;have h3:sg F s.p=35∧sg F (s.p+1)=60:=by simpa using h
   rw[h3.1];simp[dM,h3.2];omega
theorem zZ (cs:List UInt8) (s:Ps):(eB F cs s).l=s.l:=by
  unfold eB;split<;>rfl
theorem mt {s:Ps} (h:eK F s=true):Gd F.length 0 s (fI F s)∧s.p<(fI F s).p:=by
  have hlt:=tF h;have h1:∀t:Ps,t.p=s.p→Gd F.length 1 t (eE F (eB F [60] (eB F [35] t)))∧t.p<(eE F (eB F [60] (eB F [35] t))).p∧(eE F (eB F [60] (eB F [35] t))).l.length+16*t.p+15≤t.l.length+16*(eE F (eB F [60] (eB F [35] t))).p:=fun t ht=>by
    have ht2:eK F t=true:=by unfold eK at h ⊢;rwa [ht]
    have a:=gr (F:=F) (cs:=[35]) (by decide) (s:=t) (by omega);have b:=gr (F:=F) (cs:=[60]) (by decide) a.N;have c:=ie b.N;have d:=ER ht2;have e:=c.b;rw[zZ,zZ] at e;exact⟨by simpa using (a.trans b).trans c,bA d c.p,by omega⟩
  have h2:=Gd.node0 (k:=8) (s:=s) fun t ht _=>(h1 t ht).1
  obtain⟨_,h4,h5⟩:=h1 {s with l:=s.l++[⟨8,s.p,0,s.up⟩],up:=(s.l.length:Int)} rfl;refine⟨⟨h2.p,h2.N,h2.l,?_,h2.up,h2.dp,h2.f⟩,h4⟩;simp only[aH,cR] at h5;show (iQ _ _ _).length+_≤_;rw[gX];show (eE F (eB F [60] (eB F [35] {s with l:=s.l++[⟨8,s.p,0,s.up⟩],up:=(s.l.length:Int)}))).l.length+16*s.p≤s.l.length+16*(eE F (eB F [60] (eB F [35] {s with l:=s.l++[⟨8,s.p,0,s.up⟩],up:=(s.l.length:Int)}))).p+0;omega
theorem jU:∀s:Ps,s.p≤F.length→LC F.length 0 s (if eK F s=true then (fI F s,true) else (s,false)):=fun s hs=>
  LC.ite (fun hc=>LC.yes (mt hc)) (fun _=>LC.no (Gd.refl hs))
theorem rI {s:Ps} (hs:s.p≤F.length):Gd F.length 0 s (gw F s):=Gd.loop jU _ s rfl hs
theorem mI:∀s:Ps,s.p≤F.length→LC F.length 0 s (if eK F s=true then (fI F s,true) else if iM F s.p=true then (ez 7 s,true) else (s,false)):=fun s hs=>
  LC.ite (fun hc=>LC.yes (mt hc)) (fun _=>LC.ite (fun hc=>LC.yes ⟨(fW (fR hc)).2.2,(fW (fR hc)).2.1⟩) (fun _=>LC.no (Gd.refl hs)))
theorem iP:∀s:Ps,s.p≤F.length→LC F.length 0 s (if eK F s=true then (fI F s,true) else if (iM F s.p&&lI (tx F s.p))=true then (ez 6 s,true) else (s,false)):=fun s hs=>
  LC.ite (fun hc=>LC.yes (mt hc)) (fun _=>LC.ite (fun hc=>by
    have hc:=fR ((aT _ _).mp hc).1;exact LC.yes ⟨(fW hc).2.2,(fW hc).2.1⟩) (fun _=>LC.no (Gd.refl hs)))
theorem zj {s:Ps} (hs:s.p≤F.length):Gd F.length 0 s (iA F s):=Gd.loop mI _ s rfl hs
theorem wX {s:Ps} (hs:s.p≤F.length):Gd F.length 0 s (fP F s):=by
  have h1:=Gd.loop (iP (F:=F)) _ s rfl hs;refine Gd.ite (fun hc=>?_) (fun _=>h1);have h2:=(fW (F:=F) (k:=7) (fR hc)).2.2;simpa using (h1.trans h2).trans (zj h2.N)
variable {L:Ps→Ps}
abbrev GL (F:List Lf) (L:Ps→Ps):Prop:=∀s:Ps,s.p≤F.length→Gd F.length 3 s (L s)
theorem fS (hL:GL F L) {s:Ps} (hs:s.p≤F.length):Gd F.length 4 s (eM F L s):=by
  have h1:=dY hs;refine Gd.ite (fun _=>?_) (fun _=>?_)
  ·simpa using h1.trans (Gd.node0 (A:=3) fun t ht _=>hL t (by have:=h1.N;omega))
  ·exact(h1.trans (ig h1.N)).mono (by omega)
theorem ly (hL:GL F L):∀s:Ps,s.p≤F.length→LC F.length 0 s (if dQ F [101] s=true then (eM F L (eF F 116 (eM F L (dM s))),true) else (s,false)):=fun s hs=>
  LC.ite (fun hc=>LC.yes (by
    have h0:=eh hc (by decide);have h1:=fS hL (Gd.next h0).1.N;have h2:=fO (F:=F) (c:=116) (by decide) h1.N;exact Gd.paid h0 ((h1.trans h2).trans (fS hL h2.N)) (by omega))) (fun _=>LC.no (Gd.refl hs))
theorem JI (hL:GL F L) {s:Ps} (hs:s.p≤F.length):Gd F.length 14 s (mE F L s):=by
  have h1:=fS hL hs;have h2:=fO (F:=F) (c:=116) (by decide) h1.N;have h3:=fS hL h2.N;have h4:=Gd.loop (ly hL) _ _ rfl h3.N;have h5:=((h1.trans h2).trans h3).trans h4;have h6:Gd F.length 4 (eO F.length (fun s=>if dQ F [101] s=true then (eM F L (eF F 116 (eM F L (dM s))),true) else (s,false)) (eM F L (eF F 116 (eM F L s)))) _:=Gd.ite (b:=dQ F [108] _) (fun hc=>by
    have h0:=eh hc (by decide)
    exact(Gd.paid h0 (fS hL (Gd.next h0).1.N) (by omega)).1.mono (by omega)) (fun _=>(Gd.refl h5.N).mono (by omega))
  exact(h5.trans h6).trans (fO (F:=F) (c:=102) (by decide) h6.N)
theorem KL (hL:GL F L) {s:Ps} (hs:s.p≤F.length):Gd F.length 6 s (xE F L s):=by
  have h1:=fO (F:=F) (c:=100) (by decide) hs;have h2:=fS hL h1.N
  exact(h1.trans h2).trans (fO (F:=F) (c:=103) (by decide) h2.N)
theorem iO:∀s:Ps,s.p≤F.length→LC F.length 0 s (if iM F s.p=true then (ez 7 s,true) else (s,false)):=fun s hs=>
  LC.ite (fun hc=>LC.yes ⟨(fW (fR hc)).2.2,(fW (fR hc)).2.1⟩) (fun _=>LC.no (Gd.refl hs))
theorem Gv {s:Ps} (hs:s.p≤F.length):Gd F.length 0 s (jA F s):=Gd.loop iO _ s rfl hs
theorem Nm {s:Ps} (hs:s.p<F.length):Gd F.length 1 s (za F s):=by
  have h0:=(Gd.next (N:=F.length) hs).1;have h1:=h0.trans (Gv h0.N);refine Gd.ite (fun hc=>?_) (fun _=>Gd.ite (fun _=>?_) (fun _=>?_))
  ·have h2:=(Gd.next (eh hc (by decide))).1
   exact((h1.trans h2).trans (dY h2.N)).mono (by omega)
  ·exact(h1.trans (dY h1.N)).mono (by omega)
  ·simpa using h1.trans (ig h1.N)
theorem JH (hL:GL F L) {s:Ps} (hs:s.p≤F.length):Gd F.length 8 s (gF F L s):=by
  have h1:Gd F.length 1 s (if (iM F s.p&&i4 (tx F s.p))=true then ez 7 s else eS s):=Gd.ite (fun hc=>(fW (fR ((aT _ _).mp hc).1)).1) (fun _=>ig hs);unfold gF;generalize (if (iM F s.p&&i4 (tx F s.p))=true then ez 7 s else eS s)=s1 at h1;have h2:Gd F.length 1 s1 (if dQ F [59] s1=true then dK F (dM s1) else if dQ F [107] (dK F s1)=true then za F (dK F s1) else dK F s1):=by
    have h3:=dY h1.N;refine Gd.ite (fun hc=>?_) (fun _=>Gd.ite (fun hc=>?_) (fun _=>h3.mono (by omega)))
    ·have h2:=(Gd.next (eh hc (by decide))).1
     exact(h2.trans (dY h2.N)).mono (by omega)
    ·simpa using h3.trans (Nm (eh hc (by decide)))
  exact(h1.trans h2).trans (KL hL h2.N)
theorem nQ:∀s:Ps,s.p≤F.length→LC F.length 0 s (if dQ F [124] s=true then (eE F (dM s),true) else (s,false)):=fun s hs=>
  LC.ite (fun hc=>LC.yes (by
    have h0:=eh hc (by decide);exact Gd.paid h0 (ie (Gd.next h0).1.N) (by omega))) (fun _=>LC.no (Gd.refl hs))
theorem td (hL:GL F L) {s:Ps} (hs:s.p≤F.length):Gd F.length 6 s (dZ F L s):=by
  have h1:=gr (F:=F) (cs:=[40]) (by decide) hs;have h2:=ie h1.N;have h3:=Gd.loop nQ _ _ rfl h2.N;have h4:=fO (F:=F) (c:=41) (by decide) h3.N;have h5:=(((h1.trans h2).trans h3).trans h4).trans (dY h4.N);refine Gd.ite (fun _=>?_) (fun _=>h5.mono (by omega));exact h5.trans (Gd.node0 (A:=3) fun t ht _=>hL t (by have:=h5.N;omega))
theorem JC {s:Ps} (h:f7 F s=true):s.p<F.length:=by
  unfold f7 at h;rcases (dm _ _).mp h with h|h
  ·exact tB fun e=>by rw[e] at h;revert h;decide
  ·exact fR ((aT _ _).mp h).1
theorem qI (hL:GL F L) {s:Ps} (h:f7 F s=true):Gd F.length 0 s (dO 15 (dZ F L) s)∧s.p<(dO 15 (dZ F L) s).p:=by
  have hlt:=JC h;have h1:=Gd.node0 (k:=15) (s:=s) (f:=dZ F L) (A:=6) (N:=F.length) fun t ht _=>td hL (by omega)
  have key:∀t:Ps,t.p=s.p→t.p<(dZ F L t).p∧(dZ F L t).l.length+16*t.p+10≤t.l.length+16*(dZ F L t).p:=fun t e=>by
    have a1:=gr (F:=F) (cs:=[40]) (by decide) (s:=t) (by omega);have a2:=ie a1.N;have a3:=Gd.loop nQ _ _ rfl a2.N;have a4:=fO (F:=F) (c:=41) (by decide) a3.N;have a5:=(a3.trans a4).trans (dY a4.N);have a6:t.p<(eE F (eB F [40] t)).p∧(eE F (eB F [40] t)).l.length+16*t.p+15≤t.l.length+16*(eE F (eB F [40] t)).p:=by
      by_cases hc:dQ F [40] t=true
      ·have:(eB F [40] t).p=t.p+1:=by unfold eB;rw[aD hc];rfl
       have:=a2.p
       have h9:=a2.b;rw[zZ] at h9;omega
      ·have e2:eB F [40] t=t:=by unfold eB;rw[aB hc]
       rw[e2];unfold f7 at h;have h3:(sg F s.p==40)=false:=by
         unfold dQ at hc;rw[e] at hc;simpa using hc
       rw[h3] at h;have h4:iM F t.p=true:=by rw[e];simp at h;exact h.1
       unfold eE;rw[aD h4];have h8:=(fW (F:=F) (k:=7) (fR h4)).2.1;refine⟨h8,?_⟩;have e9:(ez 7 t).l.length=t.l.length+1:=by show (iQ (t.l++_) _ _).length=_;rw[gX];simp
       have e8:(ez 7 t).p=t.p+1:=rfl;omega
    have a7:=a5.p;have a8:=a5.b;unfold dZ;by_cases hp:fq F (dK F (eF F 41 (eO F.length (fun s=>if dQ F [124] s=true then (eE F (dM s),true) else (s,false)) (eE F (eB F [40] t)))))=true
    ·rw[aD hp];have h9:=(Gd.node0 (k:=2) (f:=L) (A:=3) (N:=F.length) (s:=(dK F (eF F 41 (eO F.length (fun s=>if dQ F [124] s=true then (eE F (dM s),true) else (s,false)) (eE F (eB F [40] t)))))) fun t ht _=>hL t (by have:=a5.N;omega))
     have:=h9.p
     have:=h9.b
     omega
    ·rw[aB hp];omega
  obtain⟨h4,h5⟩:=key {s with l:=s.l++[⟨15,s.p,0,s.up⟩],up:=(s.l.length:Int)} rfl;refine⟨⟨h1.p,h1.N,h1.l,?_,h1.up,h1.dp,h1.f⟩,h4⟩;simp only[aH,cR] at h5;show (iQ _ _ _).length+_≤_;rw[gX];show (dZ F L {s with l:=s.l++[⟨15,s.p,0,s.up⟩],up:=(s.l.length:Int)}).l.length+16*s.p≤s.l.length+16*(dZ F L {s with l:=s.l++[⟨15,s.p,0,s.up⟩],up:=(s.l.length:Int)}).p+0;omega
theorem iE (hL:GL F L):∀s:Ps,s.p≤F.length→LC F.length 0 s (if f7 F s=true then (if dQ F [121] (dO 15 (dZ F L) s)=true then (dK F (dM (dO 15 (dZ F L) s)),true) else (dO 15 (dZ F L) s,false)) else (s,false)):=fun s hs=>
  LC.ite (fun hc=>by
    obtain⟨h1,h2⟩:=qI hL hc;refine LC.ite (fun hy=>?_) (fun _=>LC.no h1);have h3:=Gd.next (eh hy (by decide));have h4:=dY h3.1.N;refine LC.yes ⟨by simpa using (h1.trans h3.1).trans h4,?_⟩
    have:=h3.2.1
    have:=h4.p
    omega) (fun _=>LC.no (Gd.refl hs))
theorem Gy (hL:GL F L) {s:Ps} (hs:s.p≤F.length):Gd F.length 3 s (jw F L s):=by
  have h1:=ie hs;have h2:=dY h1.N;have h3:=fO (F:=F) (c:=107) (by decide) h2.N;have h4:=dY h3.N;have h5:=Gd.loop (iE hL) _ _ rfl h4.N
  exact((((h1.trans h2).trans h3).trans h4).trans h5).trans (fO (F:=F) (c:=122) (by decide) h5.N)
theorem mU (hL:GL F L) (c:UInt8) {s:Ps} (hs:s.p≤F.length):Gd F.length 14 s (mS F L c s):=by
  unfold mS;have hb:=fS hL hs
  repeat' split
  ·exact(hb.trans (fO (F:=F) (c:=41) (by decide) hb.N)).mono (by omega)
  ·exact JI hL hs
  ·exact(hb.trans (KL hL hb.N)).mono (by omega)
  ·exact(JH hL hs).mono (by omega)
  ·exact(Gy hL hs).mono (by omega)
  ·exact(hb.trans (fO (F:=F) (c:=125) (by decide) hb.N)).mono (by omega)
theorem jP {s:Ps} (h:gu F s=true):s.p<F.length:=eh ((aT _ _).mp h).2 (by decide)
theorem J7 (c:UInt8):1≤sI c∧sI c≤16:=by
  unfold sI
  repeat' split
  all_goals omega
theorem wZ (hL:GL F L) {s:Ps} (h:s.p<F.length):Gd F.length 0 s (gT F L s)∧s.p<(gT F L s).p:=by
  have h1:∀t:Ps,t.p=s.p→Gd F.length 14 (dM t) (gw F (mS F L (sg F s.p) (dM t))):=fun t ht=>by
    have h0:=(Gd.next (N:=F.length) (s:=t) (by omega)).1;have h2:=mU hL (sg F s.p) h0.N;simpa using h2.trans (rI h2.N)
  have h3:=Gd.nest (k:=sI (sg F s.p)) (s:=s) (A:=0) (N:=F.length) (f:=fun t=>gw F (mS F L (sg F s.p) (dM t))) (fun t ht _=>(Gd.paid (by omega) (h1 t ht) (by omega)).1) (J7 _);have h4:s.p<(gT F L s).p:=by
    have:=(h1 {s with deep:=s.deep+1,l:=s.l++[⟨sI (sg F s.p),s.p,0,s.up⟩],up:=(s.l.length:Int)} rfl).p
    exact bA (dH _) this
  refine⟨⟨h3.p,h3.N,h3.l,?_,h3.up,h3.dp,h3.f⟩,h4⟩;have hb:=(h1 {s with deep:=s.deep+1,l:=s.l++[⟨sI (sg F s.p),s.p,0,s.up⟩],up:=(s.l.length:Int)} rfl).b;show (iQ _ _ _).length+_≤_;rw[gX];have e1:(dM {s with deep:=s.deep+1,l:=s.l++[⟨sI (sg F s.p),s.p,0,s.up⟩],up:=(s.l.length:Int)}).l.length=s.l.length+1:=by simp[dM]
  have e2:(dM {s with deep:=s.deep+1,l:=s.l++[⟨sI (sg F s.p),s.p,0,s.up⟩],up:=(s.l.length:Int)}).p=s.p+1:=rfl;rw[e1,e2] at hb;show (gw F (mS F L (sg F s.p) (dM {s with deep:=s.deep+1,l:=s.l++[⟨sI (sg F s.p),s.p,0,s.up⟩],up:=(s.l.length:Int)}))).l.length+16*s.p≤s.l.length+16*(gw F (mS F L (sg F s.p) (dM {s with deep:=s.deep+1,l:=s.l++[⟨sI (sg F s.p),s.p,0,s.up⟩],up:=(s.l.length:Int)}))).p+0;omega
theorem Gz {s:Ps} (h:sg F s.p=120):iM F s.p=true:=by
  unfold sg at h;unfold iM
  cases hx:F[s.p]? with
  | none=>rw[hx] at h;cases h
  | some x=>
    rw[hx] at h;simp only[uS] at h;simp only[aR];by_cases h2:x.kd=2
    ·rw[aD h2] at h;cases h
    ·rw[aB h2] at h;by_cases h4:x.kd=4
     ·rw[aD h4] at h;exfalso
      revert h
      generalize iu x.tx=o;unfold Dk;split<;>decide
     ·rw[aB h4] at h;by_cases h5:x.kd=5
      ·rw[aD h5] at h;cases h
      ·rw[aB h5] at h;by_cases h6:x.kd=6
       ·exact h6
       ·rw[aB h6] at h;cases h
theorem wY (hL:GL F L) {s:Ps} (h:sg F s.p=120):Gd F.length 2 s (my F L s)∧s.p<(my F L s).p∧(my F L s).l.length+16*s.p+13≤s.l.length+16*(my F L s).p:=by
  have hw:=Gz h;have h1:=fW (F:=F) (k:=7) (fR hw);have e1:eE F s=ez 7 s:=by unfold eE;rw[aD hw]
  have h2:=gr (F:=F) (cs:=[40]) (by decide) h1.1.N;have h3:=fO (F:=F) (c:=41) (by decide) h2.N;have h4:=(h2.trans h3).trans (dY h3.N);rw[←e1] at h1 h4;have hl:(eE F s).l.length=s.l.length+1∧(eE F s).p=s.p+1:=by
    rw[e1];exact⟨by show (iQ (s.l++_) _ _).length=_;rw[gX];simp,rfl⟩
  have h5:Gd F.length 1 (dK F (eF F 41 (eB F [40] (eE F s)))) (my F L s):=by
    unfold my;exact Gd.ite (fun hc=>(wZ hL (jP hc)).1.mono (by omega)) (fun _=>ig h4.N)
  have h6:=h4.trans h5;have h7:=h6.b;have h8:=h6.p;refine⟨⟨?_,h6.N,?_,?_,h6.up.trans h1.1.up,h6.dp.trans h1.1.dp,(h1.1.trans h6).f⟩,?_,?_⟩
  ·omega
  ·have:=h6.l;omega
  ·omega
  ·omega
  ·omega
theorem uq (hL:GL F L) {s:Ps} (hs:s.p≤F.length):Gd F.length 1 s (iS F L s):=by
  unfold iS;refine Gd.ite (fun hc=>(wZ hL (jP hc)).1.mono (by omega)) (fun _=>Gd.ite (fun hf=>?_) (fun _=>Gd.ite (fun _=>?_) (fun _=>ig hs)))
  ·have hx:sg F s.p=120:=by unfold mW at hf;simp at hf;exact hf.1
   refine(Gd.nest (k:=16) (A:=0) fun t ht _=>?_);have h1:=wY hL (s:=t) (by rw[ht];exact hx);exact⟨h1.1.p,h1.1.N,h1.1.l,by have:=h1.2.2;omega,h1.1.up,h1.1.dp,h1.1.f⟩
  ·exact Gd.node0 (A:=0) fun t ht _=>wX (by omega)
theorem lN (hL:GL F L):∀s:Ps,s.p≤F.length→LC F.length 0 s (if dQ F [124] s=true then (iS F L (dK F (dM s)),true) else (s,false)):=fun s hs=>
  LC.ite (fun hc=>LC.yes (by
    have h0:=eh hc (by decide);have h1:=dY (Gd.next h0).1.N;exact Gd.paid h0 (h1.trans (uq hL h1.N)) (by omega))) (fun _=>LC.no (Gd.refl hs))
theorem um (hL:GL F L) {s:Ps} (hs:s.p≤F.length):Gd F.length 1 s (jF F L s):=by
  have h1:=gr (F:=F) (cs:=[33]) (by decide) hs;have h2:=uq hL h1.N
  exact((h1.trans h2).trans (Gd.loop (lN hL) _ _ rfl h2.N)).mono (au _)
theorem uo (hL:GL F L) {s:Ps} (hs:s.p≤F.length):Gd F.length 2 s (jE F L s):=
  Gd.ite (fun _=>Gd.node0 (A:=1) fun t ht _=>um hL (by omega)) (fun _=>(ig hs).mono (by omega))
theorem su (hL:GL F L):∀s:Ps,s.p≤F.length→LC F.length 0 s (if dQ F [97,111] s=true then (jE F L (dK F (dM s)),true) else (s,false)):=fun s hs=>
  LC.ite (fun hc=>LC.yes (by
    have h0:=eh hc (by decide);have h1:=dY (Gd.next h0).1.N;exact Gd.paid h0 (h1.trans (uo hL h1.N)) (by omega))) (fun _=>LC.no (Gd.refl hs))
theorem mV (hL:GL F L) {s:Ps} (hs:s.p≤F.length):Gd F.length 2 s (eR F L s):=by
  have h1:=uo hL hs
  exact(h1.trans (Gd.loop (su hL) _ _ rfl h1.N)).mono (au _)
theorem jX (hL:GL F L):∀s:Ps,s.p≤F.length→LC F.length 3 s (gZ F (dO 3 (eR F L) s)):=fun s hs=>by
  have h1:=Gd.node0 (k:=3) (s:=s) (f:=eR F L) (A:=2) (N:=F.length) fun t ht _=>mV hL (by omega)
  have key:∀t,Gd F.length 0 (dO 3 (eR F L) s) t→(dO 3 (eR F L) s).p<t.p→t.l.length+16*(dO 3 (eR F L) s).p+16≤(dO 3 (eR F L) s).l.length+16*t.p→∀b,LC F.length 3 s (t,b):=fun t ht hlt hb b=>by
    have h2:=h1.trans ht;have h3:=h1.p;have h4:=h1.b;exact⟨fun _=>⟨⟨h2.p,h2.N,h2.l,by show t.l.length+16*s.p≤s.l.length+16*t.p+0;omega,h2.up,h2.dp,h2.f⟩,by show s.p<t.p;omega⟩,fun _=>h2⟩
  have step:∀r:Ps,r.p<F.length→Gd F.length 0 r (dK F (dM r))∧r.p<(dK F (dM r)).p∧(dK F (dM r)).l.length+16*r.p+16≤r.l.length+16*(dK F (dM r)).p:=fun r hr=>by
    have a:=Gd.next (N:=F.length) hr;have b:=dY a.1.N;exact⟨a.1.trans b,by have:=a.2.1;have:=b.p;omega,by have:=a.2.2;have:=b.b;omega⟩
  unfold gZ;refine LC.ite (fun hc=>?_) (fun _=>LC.ite (fun hc=>?_) (fun _=>LC.no h1))
  ·obtain⟨a,b,c⟩:=step _ (eh hc (by decide));exact key _ a b c _
  ·have e:dK F (dO 3 (eR F L) s)=dK F (dM (dO 3 (eR F L) s)):=by
     unfold dK;rw[LC.eq kV _ h1.N];simp only[hc,bQ]
   obtain⟨a,b,c⟩:=step _ (eh hc (by decide));rw[e];exact key _ a b c _
theorem Gx (hL:GL F L) {s:Ps} (hs:s.p≤F.length):Gd F.length 3 s (gP F L s):=Gd.loop (jX hL) _ s rfl hs
end
theorem jp (F:List Lf):∀n,GL F (wU F n)
  | 0=>fun s hs=>(Gd.refl hs).mono (by omega)
  | n+1=>fun s hs=>Gx (jp F n) hs
def fJ (F:List Lf) (L:Ps→Ps) (x:Ps×Bool):(Ps×Bool)×Bool:=
  if dQ F [110] x.1=true then ((dM x.1,x.2),true) else if (!x.2&&fq F x.1)=true then ((dO 2 L x.1,true),true) else if x.1.p<F.length then ((ez 17 x.1,false),true) else (x,false)
def iL (x:Ps×Bool):Nat:=2*x.1.p+(if x.2=true then 1 else 0)
def g9 (F:List Lf) (L:Ps→Ps) (x:Ps×Bool):Ps×Bool:=nO (fJ F L) (2*F.length+2-iL x) x
theorem mO {F:List Lf} {s:Ps} (h:fq F s=true):s.p<F.length:=by
  refine tB fun e=>?_
  unfold fq ng eK gu dQ at h;rw[e] at h;simp at h
theorem nI {F:List Lf} {L:Ps→Ps} (hL:GL F L) (x:Ps×Bool) (hx:x.1.p≤F.length) (hc:(fJ F L x).2=true):iL x<iL (fJ F L x).1∧(fJ F L x).1.1.p≤F.length∧Gd F.length (if x.2=true then 0 else 4) x.1 (fJ F L x).1.1 ∧
    ((fJ F L x).1.1.l.length+16*x.1.p+(if (fJ F L x).1.2=true then 0 else 4)≤x.1.l.length+16*(fJ F L x).1.1.p+(if x.2=true then 0 else 4)):=by
  obtain⟨s,b⟩:=x;replace hx:s.p≤F.length:=hx;unfold fJ at hc ⊢;unfold iL;by_cases h1:dQ F [110] s=true
  ·have h2:=Gd.next (eh h1 (by decide));simp only[h1,bQ];refine⟨?_,h2.1.N,h2.1.mono (by omega),?_⟩
   ·have:=h2.2.1;omega
   ·have:=h2.2.2;omega
  ·simp only[h1,bp,aI] at hc ⊢;by_cases h2:(!b&&fq F s)=true
   ·obtain⟨rfl,h3⟩:b=false∧fq F s=true:=by simpa using h2
    have h4:=Gd.node0 (k:=2) (s:=s) (f:=L) (A:=3) (N:=F.length) fun t ht _=>hL t (by omega)
    simp only[h2,bQ,bp,aI];refine⟨?_,h4.N,h4,?_⟩
    ·have:=h4.p;omega
    ·have:=h4.b;omega
   ·simp only[h2,bp,aI] at hc ⊢;by_cases h3:s.p<F.length
    ·have h4:=fW (F:=F) (k:=17) h3;have e9:(ez 17 s).l.length=s.l.length+1:=by show (iQ (s.l++_) _ _).length=_;rw[gX];simp
     have e8:(ez 17 s).p=s.p+1:=rfl;simp only[h3,bQ,bp,aI];refine⟨?_,h4.1.N,h4.2.2.mono (by omega),?_⟩
     ·split<;>omega
     ·split<;>omega
    ·simp only[h3,bp] at hc
     cases hc
theorem ma {F:List Lf} {x:Ps×Bool} (h:x.1.p≤F.length):iL x≤2*F.length+1:=by
  unfold iL;split<;>omega
theorem nH {F:List Lf} {L:Ps→Ps} (hL:GL F L) (x:Ps×Bool) (hx:x.1.p≤F.length):g9 F L x=if (fJ F L x).2=true then g9 F L (fJ F L x).1 else (fJ F L x).1:=by
  have h0:=ma hx;unfold g9;obtain⟨k,hk⟩:∃k,2*F.length+2-iL x=k+1:=⟨2*F.length+1-iL x,by omega⟩;rw[hk];show (if (fJ F L x).2=true then nO (fJ F L) k (fJ F L x).1 else (fJ F L x).1)=_;have fuel:∀k k' (y:Ps×Bool),y.1.p≤F.length→2*F.length+1<k+iL y→2*F.length+1<k'+iL y→nO (fJ F L) k y=nO (fJ F L) k' y:=by
    intro k
    induction k with
    | zero=>intro k' y hy h1 h2;have:=ma hy;omega
    | succ k ih=>
      intro k' y hy h1 h2
      cases k' with
      | zero=>have:=ma hy;omega
      | succ k'=>
        unfold nO;by_cases hc:(fJ F L y).2=true
        ·have:=nI hL y hy hc
         rw[aD hc,aD hc,ih k' _ this.2.1 (by omega) (by omega)]
        ·rw[aB hc,aB hc]
  by_cases hc:(fJ F L x).2=true
  ·have:=nI hL x hx hc
   rw[aD hc,aD hc,fuel k (2*F.length+2-iL (fJ F L x).1) _ this.2.1 (by omega) (by have:=ma this.2.1;omega)]
  ·rw[aB hc,aB hc]
theorem mT {F:List Lf} {L:Ps→Ps} (hL:GL F L):∀m x,2*F.length+1-iL x=m→x.1.p≤F.length→Gd F.length (if x.2=true then 0 else 4) x.1 (g9 F L x).1∧(g9 F L x).1.p=F.length:=by
  intro m
  induction m using Nat.strongRecOn with
  | _ m ih=>
    intro x hm hx;rw[nH hL x hx];by_cases hc:(fJ F L x).2=true
    ·have h1:=nI hL x hx hc;have h2:=ma h1.2.1;obtain⟨h3,h4⟩:=ih _ (by omega) _ rfl h1.2.1;rw[aD hc];have h5:=h1.2.2.1.trans h3;have h6:=h1.2.2.2;have h7:=h3.b;exact⟨⟨h5.p,h5.N,h5.l,by omega,h5.up,h5.dp,h5.f⟩,h4⟩
    ·rw[aB hc];obtain⟨s,b⟩:=x;replace hx:s.p≤F.length:=hx;unfold fJ at hc ⊢;by_cases h1:dQ F [110] s=true
     ·simp[h1] at hc
     ·simp only[h1,bp,aI] at hc ⊢;by_cases h2:(!b&&fq F s)=true
      ·simp[h2] at hc
      ·simp only[h2,bp,aI] at hc ⊢;by_cases h3:s.p<F.length
       ·simp[h3] at hc
       ·simp only[h3,bp];exact⟨(Gd.refl hx).mono (by omega),by show s.p=_;omega⟩
def iW (a:Nat):Ps:=⟨a,[], -1,0⟩
abbrev uV (F:List Lf):Ps→Ps:=wU F (F.length+1)
def eP (F:List Lf):Ps:=dO 1 (fun s=>(g9 F (uV F) (s,false)).1) (iW 0)
theorem Gw (F:List Lf):Gd F.length 5 (iW 0) (eP F)∧(eP F).p=F.length:=by
  have h:=fun t (ht:t.p=(iW 0).p)=>mT (jp F (F.length+1)) _ (t,false) rfl (by rw[ht];exact bv _)
  exact⟨Gd.node0 (A:=4) fun t ht _=>(h t ht).1,(h {iW 0 with l:=(iW 0).l++[⟨1,(iW 0).p,0,(iW 0).up⟩],up:=((iW 0).l.length:Int)} rfl).2⟩
end
end Go.Proofs.YtcagfamdoaoimaaGreatDoor
