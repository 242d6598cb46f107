/- Tokens of any numbers: the bytes of one, and the leaves of a row (token.Text, token.Leaves). -/
import Derived.Test.YtcagfamdoaoimaaGreatDoorMem
import Derived.Test.YtcagfamdoaoimaaGreatDoorLa9
import Derived.Test.YtcagfamdoaoimaaGreatDoorPa0
set_option linter.unusedVariables false
set_option linter.unusedSimpArgs false
set_option maxRecDepth 100000
set_option maxHeartbeats 8000000
namespace Go.Proofs.YtcagfamdoaoimaaGreatDoor
open Go.RowKit
structure Tz where
  kd:Int
  fr:Int
  to:Int
  op:Bool
def Nq (t:Tz):List Value:=[.int .i64 t.kd,.int .i64 t.fr,.int .i64 t.to,.bool t.op]
theorem Iw (t:Tz):(Nq t).length=4:=rfl
def xh (l:List UInt8) (t:Tz):Bool:=decide (0≤t.fr)&&decide (t.fr≤t.to)&&decide (t.to≤(l.length:Int))
def Iz (l:List UInt8) (t:Tz):List UInt8:=if xh l t=true then sub l t.fr.toNat t.to.toNat else []
structure Lf where
  kd:Int
  tx:List UInt8
  fr:Int
  to:Int
def NB (x:Lf):List Value:=[.int .i64 x.kd,.string ⟨x.tx.toArray⟩,.int .i64 x.fr,.int .i64 x.to]
def i9 (L:List Lf):List Value:=L.flatMap NB
theorem yF (L M:List Lf):i9 (L++M)=i9 L++i9 M:=by simp[i9]
theorem FY (x:Lf):∀u∈i9 [x],u.oneCell'=true:=by
  intro u hu;simp[i9,NB] at hu;rcases hu with rfl|rfl|rfl|rfl<;>rfl
def iZ (k:Int):Bool:=k==4||k==5||k==6||k==2
def lE (l:List UInt8) (t:Tz):List Lf:=if xh l t=true∧iZ t.kd=true then [⟨t.kd,Iz l t,t.fr,t.to⟩] else []
def fF (l:List UInt8) (ts:List Tz):List Lf:=ts.flatMap (lE l)
theorem mc (l:List UInt8):∀(ts:List Tz),(fF l ts).length≤ts.length
  | []=>au _
  | t::r=>by
    have:=mc l r
    have h:(lE l t).length≤1:=by unfold lE;split<;>simp
    show (lE l t++fF l r).length≤_;rw[aG,aQ];omega
theorem qR (l:List UInt8) (ts:List Tz) {k:Nat} {t:Tz} (h:ts[k]? = some t):fF l (ts.take (k+1))=fF l (ts.take k)++lE l t:=by
  rw[List.take_add_one,h];simp[fF]
theorem yL (l:List UInt8) (t:Tz) :
    (decide (t.fr<0)=true∧xh l t=false)∨(decide (t.fr<0)=false∧decide (t.to<t.fr)=true∧xh l t=false) ∨
    (decide (t.fr<0)=false∧decide (t.to<t.fr)=false∧decide ((l.length:Int)<t.to)=true∧xh l t=false) ∨
    (decide (t.fr<0)=false∧decide (t.to<t.fr)=false∧decide ((l.length:Int)<t.to)=false∧xh l t=true):=by
  unfold xh;simp only[cg,decide_eq_false_iff_not,aS,Bool.and_eq_false_iff];omega
theorem IB (l:List UInt8) (t:Tz) (w:World) (hl:l.length≤9223372036854775807) :
    jy 57 #[.string ⟨l.toArray⟩,.agg #[.int .i64 t.kd,.int .i64 t.fr,.int .i64 t.to,.bool t.op]] w (.string ⟨(Iz l t).toArray⟩):=by
  unfold Iz;obtain⟨kd,fr,to,op⟩:=t;have hw:=yL l ⟨kd,fr,to,op⟩;generalize xh l ⟨kd,fr,to,op⟩=b at hw ⊢;rcases hw with ⟨d0,rfl⟩|⟨d0,d1,rfl⟩|⟨d0,d1,d2,rfl⟩|⟨d0,d1,d2,rfl⟩
  iterate 3
    ·have d0:decide (fr<0)=_:=d0;try have d1:decide (to<fr)=_:=d1
     try have d2:decide ((l.length:Int)<to)=_:=d2
     go_enter Tryz.func57,Tryz.ntmps57;go_wp2;go_ret;exact⟨rfl,aW (aD _ _) (au _) _⟩
  ·have d0:decide (fr<0)=_:=d0;have d1:decide (to<fr)=_:=d1;have d2:decide ((l.length:Int)<to)=_:=d2;have e0:¬fr<0:=by simpa using d0
   have e1:¬to<fr:=by simpa using d1
   have e2:¬(l.length:Int)<to:=by simpa using d2
   have v0:(0:Int)≤fr:=by omega
   have v1:fr≤to:=by omega
   have v2:to≤(l.length:Int):=by omega
   rw[aC rfl];go_enter Tryz.func57,Tryz.ntmps57;go_wp2;go_ret;refine⟨?_,?_⟩
   ·rw[dY];rfl
   ·exact aW (aD _ _) (au _) _
theorem Tryz.infoLeaf:(Tryz.prog.info? 29).map (fun i=>(i.zero,i.size,i.bytes))=some (some (.agg #[.int .i64 0,.string ⟨#[]⟩,.int .i64 0,.int .i64 0]),4,40):=by kernel_rfl
theorem AW (k:Int):((k==4)=true∧iZ k=true)∨((k==4)=false∧(k==5)=true∧iZ k=true)∨((k==4)=false∧(k==5)=false∧(k==6)=true∧iZ k=true) ∨
    ((k==4)=false∧(k==5)=false∧(k==6)=false∧(k==2)=true∧iZ k=true)∨((k==4)=false∧(k==5)=false∧(k==6)=false∧(k==2)=false∧iZ k=false):=by
  unfold iZ
  cases h4:k==4<;>cases h5:k==5<;>cases h6:k==6<;>cases h2:k==2<;>simp
theorem Gf (l:List UInt8) (ts:List Tz) (A:Option Addr) (c:Nat) (w:World) (hl:l.length≤100000) (ht:ts.length≤100000) (hR:Rd w w.heap.size 4 (.slice A ts.length c) ts.length (ts.flatMap Nq)) :
    Calls Tryz.prog 32 #[.string ⟨l.toArray⟩,.slice A ts.length c] w fun e w'=>∃v,e=.returned v∧w'.ownsRow w.heap.size 29 4 v (fF l ts).length (i9 (fF l ts))∧Below w.heap.size w w':=by
  obtain⟨i0,hi0,hz0,hz1,hz2⟩:=cz Tryz.infoLeaf;have H0:=aa hR;clear hR;go_enter Tryz.func32,Tryz.ntmps32;go_wp2;go_loopw [4,6,9] (fun o b i wr=>∃k:Nat,k≤ts.length∧i=.int .i64 k∧wr.ownsRow w.heap.size 29 4 o (fF l (ts.take k)).length (i9 (fF l (ts.take k)))∧Below w.heap.size w wr) (fun o b i _=>ts.length-(intOf i).toNat)
  case atStart=>exact⟨0,br _,rfl,bT _ _ _ _,aD _ _⟩
  case round=>
    obtain⟨k,hk,rfl,ho,hb⟩:=hrel;by_cases hlt:k<ts.length
    ·obtain⟨⟨kd,fr,to,op⟩,hget⟩:∃t,ts[k]? = some t:=⟨_,ax hlt⟩;obtain⟨g,q,rfl,_,hc⟩:=gI Iw (H0.out.keep hb (au _)) hget rfl;have y0:wr.cell? ⟨g,q+k*4,none⟩=some (.int .i64 kd):=hc 0 _ rfl;have y1:wr.cell? ⟨g,q+k*4+1,none⟩=some (.int .i64 fr):=hc 1 _ rfl;have y2:wr.cell? ⟨g,q+k*4+2,none⟩=some (.int .i64 to):=hc 2 _ rfl;have y3:wr.cell? ⟨g,q+k*4+3,none⟩=some (.bool op):=hc 3 _ rfl;have u1:(k:Int)<(ts.length:Int):=by omega
     have u2:(0:Int)≤(k:Int):=by omega
     have hlen:(fF l (ts.take k)).length≤100000:=by
       have:=mc l (ts.take k)
       rw[bE] at this;omega
     have hsuc:=qR l ts hget;obtain⟨L,hL⟩:∃L,L=fF l (ts.take k):=⟨_,rfl⟩;have hleaf:∀b b',xh l ⟨kd,fr,to,op⟩=b→iZ kd=b'→lE l ⟨kd,fr,to,op⟩=if b=true∧b'=true then [⟨kd,Iz l ⟨kd,fr,to,op⟩,fr,to⟩] else []:=by rintro b b' rfl rfl;rfl
     have htx:∀W,l.length≤9223372036854775807→jy 57 #[.string ⟨l.toArray⟩,.agg #[.int .i64 kd,.int .i64 fr,.int .i64 to,.bool op]] W (.string ⟨(Iz l ⟨kd,fr,to,op⟩).toArray⟩):=IB l ⟨kd,fr,to,op⟩;rw[←hL] at hsuc ho hlen;have hways:(decide (fr<0)=true∧xh l ⟨kd,fr,to,op⟩=false)∨(decide (fr<0)=false∧decide (to<fr)=true∧xh l ⟨kd,fr,to,op⟩=false)∨(decide (fr<0)=false∧decide (to<fr)=false∧decide ((l.length:Int)<to)=true∧xh l ⟨kd,fr,to,op⟩=false)∨(decide (fr<0)=false∧decide (to<fr)=false∧decide ((l.length:Int)<to)=false∧xh l ⟨kd,fr,to,op⟩=true):=yL l ⟨kd,fr,to,op⟩;have kways:=AW kd;generalize xh l ⟨kd,fr,to,op⟩=bi at hways hleaf;generalize iZ kd=bk at kways hleaf;have hleaf:=hleaf bi bk rfl rfl;obtain⟨X,hX⟩:∃X,X=Iz l ⟨kd,fr,to,op⟩:=⟨_,rfl⟩;rw[←hX] at hleaf htx;obtain⟨A2,n2,c2,rfl⟩:=dR ho;obtain rfl:=eC ho;have HP:=aa (ac ho (ac hb (ac hsuc (ac hleaf htx))));clear ho hb hsuc hleaf htx hc hget hL hX;have hskip:lE l ⟨kd,fr,to,op⟩=[]→((∃m:Nat,m≤ts.length∧Value.int .i64 ((k:Int)+1)=.int .i64 m∧(wr.alloc (.cells #[.int .i64 kd,.int .i64 fr,.int .i64 to,.bool op] 54)).ownsRow w.heap.size 29 4 (.slice A2 L.length c2) (fF l (ts.take m)).length (i9 (fF l (ts.take m)))∧Below w.heap.size w (wr.alloc (.cells #[.int .i64 kd,.int .i64 fr,.int .i64 to,.bool op] 54)))):=by
       intro h0;have hs:=HP.out.2.2.1;rw[h0,bG] at hs;refine⟨k+1,by omega,by go_num,?_,HP.out.2.1.alloc HP.out.2.1.size _⟩;rw[hs];exact HP.out.1.alloc _
     have HK:=aa hskip;clear hskip;rcases hways with ⟨d0,rfl⟩|⟨d0,d1,rfl⟩|⟨d0,d1,d2,rfl⟩|⟨d0,d1,d2,rfl⟩
     iterate 3
       ·clear kways hleaf;go_wp2_with fail;exact⟨HK.out (by rw[HP.out.2.2.2.1];simp),by simp[intOf];omega⟩
     ·rcases kways with ⟨k4,rfl⟩|⟨k4,k5,rfl⟩|⟨k4,k5,k6,rfl⟩|⟨k4,k5,k6,k2,rfl⟩|⟨k4,k5,k6,k2,rfl⟩
      iterate 4
        ·go_upto_region 10 with fail
         refine kq fun W hbW hkW hsW=>?_
         have hoW:=dS HP.out.1 hbW;have hbw:=HP.out.2.1.trans (hbW.mono HP.out.2.1.size);obtain⟨b0,b1,b2,b3⟩:W.cell? ⟨wr.heap.size,0,none⟩=some (.int .i64 kd)∧W.cell? ⟨wr.heap.size,1,none⟩=some (.int .i64 fr)∧W.cell? ⟨wr.heap.size,2,none⟩=some (.int .i64 to)∧W.cell? ⟨wr.heap.size,3,none⟩=some (.bool op):=
           ⟨by rw[hkW.cell];rfl,by rw[hkW.cell];rfl,by rw[hkW.cell];rfl,by rw[hkW.cell];rfl⟩
         have hne:some wr.heap.size≠(Value.slice A2 L.length c2).ownBlock:=fun h=>by have:=(HP.out.1.lt _ h.symm).2;omega
         have HW:=aa (ac hoW (ac hbw (ac hkW hne)));clear hoW hbw hbW hkW hsW hne y0 y1 y2 y3
         go_region_held3 (fun w'=>w'.cell? ⟨wr.heap.size,0,none⟩=some (.int .i64 kd)∧w'.cell? ⟨wr.heap.size,1,none⟩=some (.int .i64 fr)∧w'.cell? ⟨wr.heap.size,2,none⟩=some (.int .i64 to)∧w'.cell? ⟨wr.heap.size,3,none⟩=some (.bool op))
           (first
             | with_reducible exact⟨b0,b1,b2,b3⟩
             | go_keep)
           (first
             | (go_at_call 57;with_reducible refine(HP.out.2.2.2.2 _ (by omega)).mono ?_
                rintro e w5 ⟨rfl,hb5⟩;have hb6:Below W.heap.size W w5:=(dM (aD _ W) 1).trans hb5;have k5:=HW.out.2.2.1.below hb6 HW.out.2.2.1.lt;have o5:=dS HW.out.1 hb6;have w5b:=HW.out.2.1.trans (hb6.mono HW.out.2.1.size);obtain⟨b0,b1,b2,b3⟩:w5.cell? ⟨wr.heap.size,0,none⟩=some (.int .i64 kd)∧w5.cell? ⟨wr.heap.size,1,none⟩=some (.int .i64 fr)∧w5.cell? ⟨wr.heap.size,2,none⟩=some (.int .i64 to)∧w5.cell? ⟨wr.heap.size,3,none⟩=some (.bool op):=
                  ⟨by rw[k5.cell];rfl,by rw[k5.cell];rfl,by rw[k5.cell];rfl,by rw[k5.cell];rfl⟩
                have H5:=aa (ac k5 (ac o5 w5b));clear hb5 hb6 k5 o5 w5b)
             | (refine dV rfl (.tmp 37) (.tmp 48) 23 rfl w.heap.size 29 i0 _ 4 40 Tryz.underlying23 hi0 hz0 hz1 hz2 rfl (by decide) (.slice A2 L.length c2) L.length (i9 L) (by simp[Act.eval]) (H5.out.2.1.alloc _) (.slice (some ⟨w5.heap.size,0,none⟩) 1 1) 1 (w5.heap.size+1) (i9 [⟨kd,X,fr,to⟩]) (by simp[Act.eval]) (fT w5 (i9 [⟨kd,X,fr,to⟩]) 29 4 1 rfl (by omega)) (FY _) (by unfold maxLen;omega) (by omega) (by have:=H5.out.2.2.size;simp;omega) ?_;intro v6 w6 hown6 hg6 hv6;have k6:Bk w6 wr.heap.size 54 #[.int .i64 kd,.int .i64 fr,.int .i64 to,.bool op]:=(H5.out.1.alloc _).grown hg6 HW.out.2.2.2;obtain⟨b0,b1,b2,b3⟩:w6.cell? ⟨wr.heap.size,0,none⟩=some (.int .i64 kd)∧w6.cell? ⟨wr.heap.size,1,none⟩=some (.int .i64 fr)∧w6.cell? ⟨wr.heap.size,2,none⟩=some (.int .i64 to)∧w6.cell? ⟨wr.heap.size,3,none⟩=some (.bool op):=
                  ⟨by rw[k6.cell];rfl,by rw[k6.cell];rfl,by rw[k6.cell];rfl,by rw[k6.cell];rfl⟩
                have H6:=aa (ac hown6 hg6);clear hown6 hg6 hv6 k6))
         all_goals (
           go_wp2_with fail;have hs:=HP.out.2.2.1;rw[HP.out.2.2.2.1,aC (by simp)] at hs;refine⟨⟨k+1,by omega,by go_num,?_,?_⟩,by simp[intOf];omega⟩
           ·rw[hs,yF,aG];exact H6.out.1
           ·exact cK (H5.out.2.2.alloc H5.out.2.2.size _) H6.out.2 (by have:=H5.out.2.2.size;simp;omega) (fun kk hk=>(H5.out.2.1.lt kk hk).1))
      ·go_wp2_with fail;exact⟨HK.out (by rw[HP.out.2.2.2.1];simp),by simp[intOf];omega⟩
    ·obtain rfl:k=ts.length:=by omega
     rw[List.take_length] at ho;have HP:=aa (ac ho hb);clear ho hb;go_wp2_with fail;go_ret;exact⟨_,rfl,HP.out⟩
section
def nF (s:List UInt8):UInt8:=
  if s=[33]∨s=[123]∨s=[125] then s.getD 0 0 else if s=[105,102] then 105 else if s=[116,104,101,110] then 116 else if s=[101,108,105,102] then 101
  else if s=[101,108,115,101] then 108 else if s=[102,105] then 102 else if s=[119,104,105,108,101]∨s=[117,110,116,105,108] then 119 else if s=[100,111] then 100
  else if s=[100,111,110,101] then 103 else if s=[102,111,114] then 114 else if s=[105,110] then 107 else if s=[99,97,115,101] then 99 else if s=[101,115,97,99] then 122 else 120
def Dk:Nat→UInt8
  | 0=>63|1=>97|2=>111|3=>121|13=>38|14=>59|15=>124|16=>40|17=>41|_=>60
def uO (x:Lf):UInt8:=if x.kd=2 then 110 else if x.kd=4 then Dk (iE x.tx) else if x.kd=5 then 35 else if x.kd=6 then nF x.tx else 63
def sg (F:List Lf) (i:Nat):UInt8:=match F[i]? with|some x=>uO x|none=>0
def iR (F:List Lf) (i:Nat):Bool:=match F[i]? with|some x=>x.kd==6|none=>false
def tx (F:List Lf) (i:Nat):List UInt8:=match F[i]? with|some x=>x.tx|none=>[]
def iL (s:List UInt8):Bool:=s != []&&rM s 0==s.length
def kH (s:List UInt8):Bool:=rM s 0 != 0&&rM s 0 != s.length&&s.getD (rM s 0) 0==61
structure Nd where
  kd:Nat
  fr:Nat
  tt:Nat
  up:Int
structure Ps where
  p:Nat
  l:List Nd
  up:Int
  deep:Nat
def jf:List Nd→Nat→Nat→List Nd
  | [],_,_=>[]
  | n::r,0,t=>{n with tt:=t}::r
  | n::r,i+1,t=>n::jf r i t
theorem ig:∀(l:List Nd) (i t:Nat),(jf l i t).length=l.length
  | [],_,_=>rfl
  | n::r,0,t=>rfl
  | n::r,i+1,t=>by simp[jf,ig r i t]
def nU {σ:Type} (c:σ→σ×Bool):Nat→σ→σ
  | 0,s=>s
  | k+1,s=>if (c s).2=true then nU c k (c s).1 else (c s).1
theorem tW {σ:Type} {c:σ→σ×Bool} {m:σ→Nat} {N:Nat} (h:∀s,m s≤N→(c s).2=true→m s<m (c s).1∧m (c s).1≤N):∀k k' s,m s≤N→N<k+m s→N<k'+m s→nU c k s=nU c k' s
  | 0,k',s,h0,h1,h2=>by omega
  | k+1,0,s,h0,h1,h2=>by omega
  | k+1,k'+1,s,h0,h1,h2=>by
    unfold nU;by_cases hc:(c s).2=true
    ·have:=h s h0 hc
     rw[aC hc,aC hc,tW h k k' _ this.2 (by omega) (by omega)]
    ·rw[aB hc,aB hc]
def eM (N:Nat) (c:Ps→Ps×Bool) (s:Ps):Ps:=nU c (N+1-s.p) s
theorem yE {N:Nat} {c:Ps→Ps×Bool} (h:∀s,s.p≤N→(c s).2=true→s.p<(c s).1.p∧(c s).1.p≤N) (s:Ps) (hs:s.p≤N):eM N c s=if (c s).2=true then eM N c (c s).1 else (c s).1:=by
  unfold eM;obtain⟨k,hk⟩:∃k,N+1-s.p=k+1:=⟨N-s.p,by omega⟩;rw[hk];show (if (c s).2=true then nU c k (c s).1 else (c s).1)=_;by_cases hc:(c s).2=true
  ·have:=h s hs hc
   rw[aC hc,aC hc,tW (m:=Ps.p) h k (N+1-(c s).1.p) _ this.2 (by omega) (by omega)]
  ·rw[aB hc,aB hc]
section
variable (F:List Lf)
def dO (cs:List UInt8) (s:Ps):Bool:=cs.contains (sg F s.p)
def dL (s:Ps):Ps:={s with p:=s.p+1}
def eA (cs:List UInt8) (s:Ps):Ps:=if dO F cs s=true then dL s else s
def dN (k:Nat) (f:Ps→Ps) (s:Ps):Ps:=
  let s2:=f {s with l:=s.l++[⟨k,s.p,0,s.up⟩],up:=(s.l.length:Int)}
  {s2 with up:=s.up,l:=jf s2.l s.l.length s2.p}
def jA (k:Nat) (f:Ps→Ps) (s:Ps):Ps:=
  let s2:=dN k f {s with deep:=s.deep+1}
  {s2 with deep:=s2.deep-1}
def eP (s:Ps):Ps:=dN 18 id s
def eB (c:UInt8) (s:Ps):Ps:=if dO F [c] s=true then dL s else eP s
def er (k:Nat) (s:Ps):Ps:=dN k dL s
def eD (s:Ps):Ps:=if iR F s.p=true then er 7 s else eP s
def dJ (s:Ps):Ps:=eM F.length (fun s=>if dO F [110] s=true then (dL s,true) else (s,false)) s
def eN (s:Ps):Bool:=sg F s.p==60||sg F s.p==35&&sg F (s.p+1)==60
def gw (s:Ps):Bool:=decide (s.deep<200)&&dO F [123,40,105,119,114,99] s
def pn (s:Ps):Bool:=sg F s.p==120||(eN F s||gw F s)
def fM (s:Ps):Bool:=sg F s.p==33||pn F s
def nZ (s:Ps):Bool:=sg F s.p==120&&(sg F (s.p+1)==40&&(decide (s.deep<200)&&iL (tx F s.p)))
def fH (s:Ps):Ps:=dN 8 (fun s=>eD F (eA F [60] (eA F [35] s))) s
def gr (s:Ps):Ps:=eM F.length (fun s=>if eN F s=true then (fH F s,true) else (s,false)) s
def im (s:Ps):Ps:=eM F.length (fun s=>if eN F s=true then (fH F s,true) else if iR F s.p=true then (er 7 s,true) else (s,false)) s
def fQ (s:Ps):Ps:=
  let s1:=eM F.length (fun s=>if eN F s=true then (fH F s,true) else if (iR F s.p&&kH (tx F s.p))=true then (er 6 s,true) else (s,false)) s
  if iR F s1.p=true then im F (er 7 s1) else s1
variable (L:Ps→Ps)
def eJ (s:Ps):Ps:=if fM F (dJ F s)=true then dN 2 L (dJ F s) else eP (dJ F s)
def mh (s:Ps):Ps:=
  let s1:=eM F.length (fun s=>if dO F [101] s=true then (eJ F L (eB F 116 (eJ F L (dL s))),true) else (s,false)) (eJ F L (eB F 116 (eJ F L s)))
  eB F 102 (if dO F [108] s1=true then eJ F L (dL s1) else s1)
def wR (s:Ps):Ps:=eB F 103 (eJ F L (eB F 100 s))
def jg (s:Ps):Ps:=eM F.length (fun s=>if iR F s.p=true then (er 7 s,true) else (s,false)) s
def vI (s:Ps):Ps:=
  let s1:=jg F (dL s)
  if dO F [59] s1=true then dJ F (dL s1) else if dO F [110] s1=true then dJ F s1 else eP s1
def gz (s:Ps):Ps:=
  let s1:=if (iR F s.p&&iL (tx F s.p))=true then er 7 s else eP s
  wR F L (if dO F [59] s1=true then dJ F (dL s1) else if dO F [107] (dJ F s1)=true then vI F (dJ F s1) else dJ F s1)
def dZ (s:Ps):Ps:=
  let s1:=dJ F (eB F 41 (eM F.length (fun s=>if dO F [124] s=true then (eD F (dL s),true) else (s,false)) (eD F (eA F [40] s))))
  if fM F s1=true then dN 2 L s1 else s1
def gh (s:Ps):Bool:=sg F s.p==40||iR F s.p&&sg F s.p != 122
def je (s:Ps):Ps:=
  eB F 122 (eM F.length (fun s=>if gh F s=true then (if dO F [121] (dN 15 (dZ F L) s)=true then (dJ F (dL (dN 15 (dZ F L) s)),true) else (dN 15 (dZ F L) s,false)) else (s,false)) (dJ F (eB F 107 (dJ F (eD F s)))))
def mz (c:UInt8) (s:Ps):Ps:=
  if c=40 then eB F 41 (eJ F L s) else if c=105 then mh F L s else if c=119 then wR F L (eJ F L s) else if c=114 then gz F L s else if c=99 then je F L s else eB F 125 (eJ F L s)
def pW (c:UInt8):Nat:=if c=40 then 10 else if c=105 then 11 else if c=119 then 12 else if c=114 then 13 else if c=99 then 14 else 9
def gV (s:Ps):Ps:=jA (pW (sg F s.p)) (fun t=>gr F (mz F L (sg F s.p) (dL t))) s
def lT (s:Ps):Ps:=
  let s1:=dJ F (eB F 41 (eA F [40] (eD F s)))
  if gw F s1=true then gV F L s1 else eP s1
def iV (s:Ps):Ps:=if gw F s=true then gV F L s else if nZ F s=true then jA 16 (lT F L) s else if pn F s=true then dN 5 (fQ F) s else eP s
def lz (s:Ps):Ps:=eM F.length (fun s=>if dO F [124] s=true then (iV F L (dJ F (dL s)),true) else (s,false)) (iV F L (eA F [33] s))
def jZ (s:Ps):Ps:=if fM F s=true then dN 4 (lz F L) s else eP s
def eT (s:Ps):Ps:=eM F.length (fun s=>if dO F [97,111] s=true then (jZ F L (dJ F (dL s)),true) else (s,false)) (jZ F L s)
def iQ (s:Ps):Ps×Bool:=if dO F [59,38] s=true then (dJ F (dL s),fM F (dJ F (dL s))) else if dO F [110] s=true then (dJ F s,fM F (dJ F s)) else (s,false)
def mt (s:Ps):Ps:=eM F.length (fun s=>iQ F (dN 3 (eT F L) s)) s
end
def uT (F:List Lf):Nat→Ps→Ps
  | 0=>id
  | n+1=>mt F (uT F n)
def Nx (k x y:Nat):Prop:=1≤k∧k≤18∧(k=17→y=x+1)∧(k=18→y=x)
inductive Fo:Nat→Int→Nat→Nat→List Nd→Prop
  | nil {b:Nat} {u:Int} {a c:Nat}:a≤c→Fo b u a c []
  | cons {b:Nat} {u:Int} {a c k x y:Nat} {ks r:List Nd}:a≤x→x≤y→Nx k x y→Fo (b+1) (b:Int) x y ks→Fo (b+1+ks.length) u y c r→Fo b u a c (⟨k,x,y,u⟩::(ks++r))
theorem Fo.le {b:Nat} {u:Int} {a c:Nat} {l:List Nd} (h:Fo b u a c l):a≤c:=by
  induction h with
  | nil h=>exact h
  | cons h1 h2 _ _ _ _ ih=>omega
theorem Fo.app {b:Nat} {u:Int} {a c:Nat} {l:List Nd} (h:Fo b u a c l):∀{d:Nat} {m:List Nd},Fo (b+l.length) u c d m→Fo b u a d (l++m):=by
  induction h with
  | nil h=>
    intro d m k
    cases k with
    | nil k=>exact .nil (by omega)
    | cons k1 k2 k3 k4 k5=>exact .cons (by omega) k2 k3 k4 k5
  | @cons b u a c k x y ks r h1 h2 h3 h4 h5 _ ih=>
    intro d m hm;rw[bJ,bI];refine .cons h1 h2 h3 h4 (ih ?_);simp only[aQ,aG] at hm
    rwa [show b+1+ks.length+r.length=b+(ks.length+r.length+1) by omega]
theorem Fo.mono {b:Nat} {u:Int} {a a' c:Nat} {l:List Nd} (h:Fo b u a c l) (ha:a'≤a):Fo b u a' c l:=by
  cases h with
  | nil h=>exact .nil (by omega)
  | cons h1 h2 h3 h4 h5=>exact .cons (by omega) h2 h3 h4 h5
theorem Cc (l:List Nd) (n:Nd) (r:List Nd) (t:Nat):jf (l++n::r) l.length t=l++{n with tt:=t}::r:=by
  induction l with
  | nil=>rfl
  | cons a l ih=>show a::jf (l++n::r) l.length t=_;rw[ih];rfl
structure Gd (N B:Nat) (s t:Ps):Prop where
  p:s.p≤t.p
  N:t.p≤N
  l:s.l.length≤t.l.length
  b:t.l.length+16*s.p≤s.l.length+16*t.p+B
  up:t.up=s.up
  dp:t.deep=s.deep
  f:∃m,t.l=s.l++m∧Fo s.l.length s.up s.p t.p m
theorem Gd.refl {N:Nat} {s:Ps} (h:s.p≤N):Gd N 0 s s:=⟨au _,h,au _,by omega,rfl,rfl,[],by simp,.nil (au _)⟩
theorem Gd.trans {N A B:Nat} {s t u:Ps} (h:Gd N A s t) (k:Gd N B t u):Gd N (A+B) s u:=by
  refine⟨aA h.p k.p,k.N,aA h.l k.l,by have:=h.b;have:=k.b;omega,k.up.trans h.up,k.dp.trans h.dp,?_⟩;obtain⟨m,h1,h2⟩:=h.f;obtain⟨m',k1,k2⟩:=k.f;rw[h.up,h1,aG] at k2;exact⟨m++m',by rw[k1,h1,bI],h2.app k2⟩
theorem Gd.mono {N A B:Nat} {s t:Ps} (h:Gd N A s t) (hab:A≤B):Gd N B s t:=⟨h.p,h.N,h.l,by have:=h.b;omega,h.up,h.dp,h.f⟩
theorem Gd.next {N:Nat} {s:Ps} (h:s.p<N):Gd N 0 s (dL s)∧s.p<(dL s).p∧(dL s).l.length+16*s.p+16≤s.l.length+16*(dL s).p:=⟨⟨bM _,h,au _,by show s.l.length+16*s.p≤s.l.length+16*(s.p+1)+0;omega,rfl,rfl,[],by simp[dL],.nil (bM _)⟩,dA _,by show s.l.length+16*s.p+16≤s.l.length+16*(s.p+1);omega⟩
theorem Gd.paid {N A:Nat} {s t:Ps} (h:s.p<N) (k:Gd N A (dL s) t) (hA:A≤16):Gd N 0 s t∧s.p<t.p:=by
  have h1:=k.p;have h2:=k.b;have h3:(dL s).p=s.p+1:=rfl;have h4:(dL s).l=s.l:=rfl;obtain⟨m,h5,h6⟩:=k.f;rw[h3] at h1 h2 h6;rw[h4] at h2 h5 h6;exact⟨⟨by omega,k.N,by rw[←h4];exact k.l,by omega,k.up,k.dp,m,h5,h6.mono (by omega)⟩,by omega⟩
theorem Gd.node {N A k:Nat} {s:Ps} {f:Ps→Ps} (h:Gd N A {s with l:=s.l++[⟨k,s.p,0,s.up⟩],up:=(s.l.length:Int)} (f {s with l:=s.l++[⟨k,s.p,0,s.up⟩],up:=(s.l.length:Int)})) (hk:Nx k s.p (f {s with l:=s.l++[⟨k,s.p,0,s.up⟩],up:=(s.l.length:Int)}).p):Gd N (A+1) s (dN k f s):=by
  have h1:=h.p;have h2:=h.l;have h3:=h.b;obtain⟨m,h4,h5⟩:=h.f;simp only[aG,dx] at h2 h3 h5
  refine⟨h1,h.N,by show _≤(jf _ _ _).length;rw[ig];omega,by show (jf _ _ _).length+_≤_;rw[ig];show _+16*s.p≤s.l.length+16*(f _).p+_;omega,rfl,h.dp,
    ⟨k,s.p,(f {s with l:=s.l++[⟨k,s.p,0,s.up⟩],up:=(s.l.length:Int)}).p,s.up⟩::m,?_,?_⟩
  ·show jf (f {s with l:=s.l++[⟨k,s.p,0,s.up⟩],up:=(s.l.length:Int)}).l s.l.length (f {s with l:=s.l++[⟨k,s.p,0,s.up⟩],up:=(s.l.length:Int)}).p=_;rw[h4,bI,List.singleton_append,Cc]
  ·have:=Fo.cons (u:=s.up) (au s.p) h5.le hk h5 (.nil (au _))
   rw[bG] at this;exact this
theorem Gd.node0 {N A k:Nat} {s:Ps} {f:Ps→Ps} (h:∀t:Ps,t.p=s.p→t.deep=s.deep→Gd N A t (f t)) (hk:1≤k∧k≤16:=by decide):Gd N (A+1) s (dN k f s):=Gd.node (h _ rfl rfl) ⟨hk.1,by omega,fun e=>by omega,fun e=>by omega⟩
theorem Gd.nest {N A k:Nat} {s:Ps} {f:Ps→Ps} (h:∀t:Ps,t.p=s.p→t.deep=s.deep+1→Gd N A t (f t)) (hk:1≤k∧k≤16:=by decide):Gd N (A+1) s (jA k f s):=by
  have h1:=Gd.node0 (k:=k) (s:={s with deep:=s.deep+1}) h hk;exact⟨h1.p,h1.N,h1.l,h1.b,h1.up,by show (dN k f {s with deep:=s.deep+1}).deep-1=s.deep;rw[h1.dp];rfl,h1.f⟩
def LC (N B:Nat) (s:Ps) (r:Ps×Bool):Prop:=(r.2=true→Gd N 0 s r.1∧s.p<r.1.p)∧(r.2=false→Gd N B s r.1)
theorem LC.yes {N B:Nat} {s t:Ps} (h:Gd N 0 s t∧s.p<t.p):LC N B s (t,true):=⟨fun _=>h,fun h=>by cases h⟩
theorem LC.no {N B:Nat} {s t:Ps} (h:Gd N B s t):LC N B s (t,false):=⟨fun h=>(by cases h),fun _=>h⟩
theorem LC.ite {N B:Nat} {s:Ps} {r r':Ps×Bool} {b:Bool} (h:b=true→LC N B s r) (k:b=false→LC N B s r'):LC N B s (if b=true then r else r'):=by
  cases b
  ·exact k rfl
  ·exact h rfl
theorem Gd.ite {N B:Nat} {s r r':Ps} {b:Bool} (h:b=true→Gd N B s r) (k:b=false→Gd N B s r'):Gd N B s (if b=true then r else r'):=by
  cases b
  ·exact k rfl
  ·exact h rfl
theorem Gd.loop {N:Nat} {c:Ps→Ps×Bool} {B:Nat} (h:∀s,s.p≤N→LC N B s (c s)):∀m s,N-s.p=m→s.p≤N→Gd N B s (eM N c s):=by
  intro m
  induction m using Nat.strongRecOn with
  | _ m ih=>
    intro s hm hs;rw[yE (fun s hs hc=>⟨((h s hs).1 hc).2,((h s hs).1 hc).1.N⟩) s hs];by_cases hc:(c s).2=true
    ·rw[aC hc];have h1:=(h s hs).1 hc;have h2:=h1.1.N;simpa using h1.1.trans (ih _ (by omega) _ rfl h2)
    ·rw[aB hc]
     exact(h s hs).2 (by simpa using hc)
theorem LC.eq {N B:Nat} {c:Ps→Ps×Bool} (h:∀s,s.p≤N→LC N B s (c s)) (s:Ps) (hs:s.p≤N):eM N c s=if (c s).2=true then eM N c (c s).1 else (c s).1:=
  yE (fun s hs hc=>⟨((h s hs).1 hc).2,((h s hs).1 hc).1.N⟩) s hs
theorem tu {F:List Lf} {i:Nat} (h:sg F i≠0):i<F.length:=by
  unfold sg at h;refine Nat.lt_of_not_le fun hi=>?_
  rw[bZ hi] at h;exact h rfl
theorem dX {F:List Lf} {cs:List UInt8} {s:Ps} (hc:dO F cs s=true) (h0:cs.contains 0=false):s.p<F.length:=by
  refine tu fun e=>?_
  unfold dO at hc;rw[e,h0] at hc
  cases hc
theorem fN {F:List Lf} {i:Nat} (h:iR F i=true):i<F.length:=by
  unfold iR at h;refine Nat.lt_of_not_le fun hi=>?_
  rw[bZ hi] at h
  cases h
section
variable {F:List Lf}
theorem fW {cs:List UInt8} (h0:cs.contains 0=false) {s:Ps} (hs:s.p≤F.length):Gd F.length 0 s (eA F cs s):=by
  unfold eA;by_cases hc:dO F cs s=true
  ·rw[aC hc];exact(Gd.next (dX hc h0)).1
  ·rw[aB hc];exact Gd.refl hs
theorem g9 {s:Ps} (hs:s.p≤F.length):Gd F.length 1 s (eP s):=Gd.node (A:=0) (Gd.refl hs) ⟨by decide,by decide,fun e=>(by cases e),fun _=>rfl⟩
theorem fY {k:Nat} {s:Ps} (hs:s.p<F.length) (hk:1≤k∧k≤17:=by decide):Gd F.length 1 s (er k s)∧s.p<(er k s).p∧Gd F.length 0 s (er k s):=by
  have h:Gd F.length 0 _ _:=(Gd.next (N:=F.length) (s:={s with l:=s.l++[⟨k,s.p,0,s.up⟩],up:=(s.l.length:Int)}) hs).1;have h1:=Gd.node h ⟨hk.1,by omega,fun _=>rfl,fun e=>by omega⟩;refine⟨h1,dA _,h1.p,h1.N,h1.l,?_,h1.up,h1.dp,h1.f⟩;show (jf _ _ _).length+_≤_;rw[ig];show (s.l++_).length+16*s.p≤s.l.length+16*(s.p+1)+0;simp;omega
theorem fA {c:UInt8} (h0:c≠0) {s:Ps} (hs:s.p≤F.length):Gd F.length 1 s (eB F c s):=by
  unfold eB;by_cases hc:dO F [c] s=true
  ·rw[aC hc];exact(Gd.next (dX hc (by simpa using h0.symm))).1.mono (by omega)
  ·rw[aB hc];exact g9 hs
theorem gP {s:Ps} (hs:s.p≤F.length):Gd F.length 1 s (eD F s):=by
  unfold eD;by_cases hc:iR F s.p=true
  ·rw[aC hc];exact(fY (fN hc)).1
  ·rw[aB hc];exact g9 hs
end
section
variable {F:List Lf}
theorem lj:∀s:Ps,s.p≤F.length→LC F.length 0 s (if dO F [110] s=true then (dL s,true) else (s,false)):=fun s hs=>
  LC.ite (fun hc=>LC.yes ⟨(Gd.next (dX hc (by decide))).1,dA _⟩) (fun _=>LC.no (Gd.refl hs))
theorem dW {s:Ps} (hs:s.p≤F.length):Gd F.length 0 s (dJ F s):=Gd.loop lj _ s rfl hs
theorem tC {s:Ps} (h:eN F s=true):s.p<F.length:=by
  refine tu fun e=>?_
  unfold eN at h;rw[e] at h;simp at h
theorem EO {s:Ps} (h:eN F s=true):s.p<(eA F [60] (eA F [35] s)).p:=by
  unfold eN at h;unfold eA dO;by_cases h1:sg F s.p=60
  ·rw[h1];simp[dL,h1]
  ·have h2:(sg F s.p==60)=false:=by simpa using h1
   rw[h2] at h;have h3:sg F s.p=35∧sg F (s.p+1)=60:=by simpa using h
   rw[h3.1];simp[dL,h3.2];omega
theorem zR (cs:List UInt8) (s:Ps):(eA F cs s).l=s.l:=by
  unfold eA;split<;>rfl
theorem nX {s:Ps} (h:eN F s=true):Gd F.length 0 s (fH F s)∧s.p<(fH F s).p:=by
  have hlt:=tC h;have h1:∀t:Ps,t.p=s.p→Gd F.length 1 t (eD F (eA F [60] (eA F [35] t)))∧t.p<(eD F (eA F [60] (eA F [35] t))).p∧(eD F (eA F [60] (eA F [35] t))).l.length+16*t.p+15≤t.l.length+16*(eD F (eA F [60] (eA F [35] t))).p:=fun t ht=>by
    have ht2:eN F t=true:=by unfold eN at h ⊢;rwa [ht]
    have a:=fW (F:=F) (cs:=[35]) (by decide) (s:=t) (by omega);have b:=fW (F:=F) (cs:=[60]) (by decide) a.N;have c:=gP b.N;have d:=EO ht2;have e:=c.b;rw[zR,zR] at e;exact⟨by simpa using (a.trans b).trans c,bq d c.p,by omega⟩
  have h2:=Gd.node0 (k:=8) (s:=s) fun t ht _=>(h1 t ht).1
  obtain⟨_,h4,h5⟩:=h1 {s with l:=s.l++[⟨8,s.p,0,s.up⟩],up:=(s.l.length:Int)} rfl;refine⟨⟨h2.p,h2.N,h2.l,?_,h2.up,h2.dp,h2.f⟩,h4⟩;simp only[aG,dx] at h5;show (jf _ _ _).length+_≤_;rw[ig];show (eD F (eA F [60] (eA F [35] {s with l:=s.l++[⟨8,s.p,0,s.up⟩],up:=(s.l.length:Int)}))).l.length+16*s.p≤s.l.length+16*(eD F (eA F [60] (eA F [35] {s with l:=s.l++[⟨8,s.p,0,s.up⟩],up:=(s.l.length:Int)}))).p+0;omega
theorem jl:∀s:Ps,s.p≤F.length→LC F.length 0 s (if eN F s=true then (fH F s,true) else (s,false)):=fun s hs=>
  LC.ite (fun hc=>LC.yes (nX hc)) (fun _=>LC.no (Gd.refl hs))
theorem rT {s:Ps} (hs:s.p≤F.length):Gd F.length 0 s (gr F s):=Gd.loop jl _ s rfl hs
theorem lZ:∀s:Ps,s.p≤F.length→LC F.length 0 s (if eN F s=true then (fH F s,true) else if iR F s.p=true then (er 7 s,true) else (s,false)):=fun s hs=>
  LC.ite (fun hc=>LC.yes (nX hc)) (fun _=>LC.ite (fun hc=>LC.yes ⟨(fY (fN hc)).2.2,(fY (fN hc)).2.1⟩) (fun _=>LC.no (Gd.refl hs)))
theorem jj:∀s:Ps,s.p≤F.length→LC F.length 0 s (if eN F s=true then (fH F s,true) else if (iR F s.p&&kH (tx F s.p))=true then (er 6 s,true) else (s,false)):=fun s hs=>
  LC.ite (fun hc=>LC.yes (nX hc)) (fun _=>LC.ite (fun hc=>by
    have hc:=fN ((aS _ _).mp hc).1;exact LC.yes ⟨(fY hc).2.2,(fY hc).2.1⟩) (fun _=>LC.no (Gd.refl hs)))
theorem Gw {s:Ps} (hs:s.p≤F.length):Gd F.length 0 s (im F s):=Gd.loop lZ _ s rfl hs
theorem wO {s:Ps} (hs:s.p≤F.length):Gd F.length 0 s (fQ F s):=by
  have h1:=Gd.loop (jj (F:=F)) _ s rfl hs;refine Gd.ite (fun hc=>?_) (fun _=>h1);have h2:=(fY (F:=F) (k:=7) (fN hc)).2.2;simpa using (h1.trans h2).trans (Gw h2.N)
variable {L:Ps→Ps}
abbrev GL (F:List Lf) (L:Ps→Ps):Prop:=∀s:Ps,s.p≤F.length→Gd F.length 3 s (L s)
theorem fG (hL:GL F L) {s:Ps} (hs:s.p≤F.length):Gd F.length 4 s (eJ F L s):=by
  have h1:=dW hs;refine Gd.ite (fun _=>?_) (fun _=>?_)
  ·simpa using h1.trans (Gd.node0 (A:=3) fun t ht _=>hL t (by have:=h1.N;omega))
  ·exact(h1.trans (g9 h1.N)).mono (by omega)
theorem jw (hL:GL F L):∀s:Ps,s.p≤F.length→LC F.length 0 s (if dO F [101] s=true then (eJ F L (eB F 116 (eJ F L (dL s))),true) else (s,false)):=fun s hs=>
  LC.ite (fun hc=>LC.yes (by
    have h0:=dX hc (by decide);have h1:=fG hL (Gd.next h0).1.N;have h2:=fA (F:=F) (c:=116) (by decide) h1.N;exact Gd.paid h0 ((h1.trans h2).trans (fG hL h2.N)) (by omega))) (fun _=>LC.no (Gd.refl hs))
theorem JF (hL:GL F L) {s:Ps} (hs:s.p≤F.length):Gd F.length 14 s (mh F L s):=by
  have h1:=fG hL hs;have h2:=fA (F:=F) (c:=116) (by decide) h1.N;have h3:=fG hL h2.N;have h4:=Gd.loop (jw hL) _ _ rfl h3.N;have h5:=((h1.trans h2).trans h3).trans h4;have h6:Gd F.length 4 (eM F.length (fun s=>if dO F [101] s=true then (eJ F L (eB F 116 (eJ F L (dL s))),true) else (s,false)) (eJ F L (eB F 116 (eJ F L s)))) _:=Gd.ite (b:=dO F [108] _) (fun hc=>by
    have h0:=dX hc (by decide)
    exact(Gd.paid h0 (fG hL (Gd.next h0).1.N) (by omega)).1.mono (by omega)) (fun _=>(Gd.refl h5.N).mono (by omega))
  exact(h5.trans h6).trans (fA (F:=F) (c:=102) (by decide) h6.N)
theorem KJ (hL:GL F L) {s:Ps} (hs:s.p≤F.length):Gd F.length 6 s (wR F L s):=by
  have h1:=fA (F:=F) (c:=100) (by decide) hs;have h2:=fG hL h1.N
  exact(h1.trans h2).trans (fA (F:=F) (c:=103) (by decide) h2.N)
theorem iJ:∀s:Ps,s.p≤F.length→LC F.length 0 s (if iR F s.p=true then (er 7 s,true) else (s,false)):=fun s hs=>
  LC.ite (fun hc=>LC.yes ⟨(fY (fN hc)).2.2,(fY (fN hc)).2.1⟩) (fun _=>LC.no (Gd.refl hs))
theorem yS {s:Ps} (hs:s.p≤F.length):Gd F.length 0 s (jg F s):=Gd.loop iJ _ s rfl hs
theorem KG {s:Ps} (hs:s.p<F.length):Gd F.length 1 s (vI F s):=by
  have h0:=(Gd.next (N:=F.length) hs).1;have h1:=h0.trans (yS h0.N);refine Gd.ite (fun hc=>?_) (fun _=>Gd.ite (fun _=>?_) (fun _=>?_))
  ·have h2:=(Gd.next (dX hc (by decide))).1
   exact((h1.trans h2).trans (dW h2.N)).mono (by omega)
  ·exact(h1.trans (dW h1.N)).mono (by omega)
  ·simpa using h1.trans (g9 h1.N)
theorem JE (hL:GL F L) {s:Ps} (hs:s.p≤F.length):Gd F.length 8 s (gz F L s):=by
  have h1:Gd F.length 1 s (if (iR F s.p&&iL (tx F s.p))=true then er 7 s else eP s):=Gd.ite (fun hc=>(fY (fN ((aS _ _).mp hc).1)).1) (fun _=>g9 hs);unfold gz;generalize (if (iR F s.p&&iL (tx F s.p))=true then er 7 s else eP s)=s1 at h1;have h2:Gd F.length 1 s1 (if dO F [59] s1=true then dJ F (dL s1) else if dO F [107] (dJ F s1)=true then vI F (dJ F s1) else dJ F s1):=by
    have h3:=dW h1.N;refine Gd.ite (fun hc=>?_) (fun _=>Gd.ite (fun hc=>?_) (fun _=>h3.mono (by omega)))
    ·have h2:=(Gd.next (dX hc (by decide))).1
     exact(h2.trans (dW h2.N)).mono (by omega)
    ·simpa using h3.trans (KG (dX hc (by decide)))
  exact(h1.trans h2).trans (KJ hL h2.N)
theorem my:∀s:Ps,s.p≤F.length→LC F.length 0 s (if dO F [124] s=true then (eD F (dL s),true) else (s,false)):=fun s hs=>
  LC.ite (fun hc=>LC.yes (by
    have h0:=dX hc (by decide);exact Gd.paid h0 (gP (Gd.next h0).1.N) (by omega))) (fun _=>LC.no (Gd.refl hs))
theorem td (hL:GL F L) {s:Ps} (hs:s.p≤F.length):Gd F.length 6 s (dZ F L s):=by
  have h1:=fW (F:=F) (cs:=[40]) (by decide) hs;have h2:=gP h1.N;have h3:=Gd.loop my _ _ rfl h2.N;have h4:=fA (F:=F) (c:=41) (by decide) h3.N;have h5:=(((h1.trans h2).trans h3).trans h4).trans (dW h4.N);refine Gd.ite (fun _=>?_) (fun _=>h5.mono (by omega));exact h5.trans (Gd.node0 (A:=3) fun t ht _=>hL t (by have:=h5.N;omega))
theorem JA {s:Ps} (h:gh F s=true):s.p<F.length:=by
  unfold gh at h;rcases (du _ _).mp h with h|h
  ·exact tu fun e=>by rw[e] at h;revert h;decide
  ·exact fN ((aS _ _).mp h).1
theorem oS (hL:GL F L) {s:Ps} (h:gh F s=true):Gd F.length 0 s (dN 15 (dZ F L) s)∧s.p<(dN 15 (dZ F L) s).p:=by
  have hlt:=JA h;have h1:=Gd.node0 (k:=15) (s:=s) (f:=dZ F L) (A:=6) (N:=F.length) fun t ht _=>td hL (by omega)
  have key:∀t:Ps,t.p=s.p→t.p<(dZ F L t).p∧(dZ F L t).l.length+16*t.p+10≤t.l.length+16*(dZ F L t).p:=fun t e=>by
    have a1:=fW (F:=F) (cs:=[40]) (by decide) (s:=t) (by omega);have a2:=gP a1.N;have a3:=Gd.loop my _ _ rfl a2.N;have a4:=fA (F:=F) (c:=41) (by decide) a3.N;have a5:=(a3.trans a4).trans (dW a4.N);have a6:t.p<(eD F (eA F [40] t)).p∧(eD F (eA F [40] t)).l.length+16*t.p+15≤t.l.length+16*(eD F (eA F [40] t)).p:=by
      by_cases hc:dO F [40] t=true
      ·have:(eA F [40] t).p=t.p+1:=by unfold eA;rw[aC hc];rfl
       have:=a2.p
       have h9:=a2.b;rw[zR] at h9;omega
      ·have e2:eA F [40] t=t:=by unfold eA;rw[aB hc]
       rw[e2];unfold gh at h;have h3:(sg F s.p==40)=false:=by
         unfold dO at hc;rw[e] at hc;simpa using hc
       rw[h3] at h;have h4:iR F t.p=true:=by rw[e];simp at h;exact h.1
       unfold eD;rw[aC h4];have h8:=(fY (F:=F) (k:=7) (fN h4)).2.1;refine⟨h8,?_⟩;have e9:(er 7 t).l.length=t.l.length+1:=by show (jf (t.l++_) _ _).length=_;rw[ig];simp
       have e8:(er 7 t).p=t.p+1:=rfl;omega
    have a7:=a5.p;have a8:=a5.b;unfold dZ;by_cases hp:fM F (dJ F (eB F 41 (eM F.length (fun s=>if dO F [124] s=true then (eD F (dL s),true) else (s,false)) (eD F (eA F [40] t)))))=true
    ·rw[aC hp];have h9:=(Gd.node0 (k:=2) (f:=L) (A:=3) (N:=F.length) (s:=(dJ F (eB F 41 (eM F.length (fun s=>if dO F [124] s=true then (eD F (dL s),true) else (s,false)) (eD F (eA F [40] t)))))) fun t ht _=>hL t (by have:=a5.N;omega))
     have:=h9.p
     have:=h9.b
     omega
    ·rw[aB hp];omega
  obtain⟨h4,h5⟩:=key {s with l:=s.l++[⟨15,s.p,0,s.up⟩],up:=(s.l.length:Int)} rfl;refine⟨⟨h1.p,h1.N,h1.l,?_,h1.up,h1.dp,h1.f⟩,h4⟩;simp only[aG,dx] at h5;show (jf _ _ _).length+_≤_;rw[ig];show (dZ F L {s with l:=s.l++[⟨15,s.p,0,s.up⟩],up:=(s.l.length:Int)}).l.length+16*s.p≤s.l.length+16*(dZ F L {s with l:=s.l++[⟨15,s.p,0,s.up⟩],up:=(s.l.length:Int)}).p+0;omega
theorem iz (hL:GL F L):∀s:Ps,s.p≤F.length→LC F.length 0 s (if gh F s=true then (if dO F [121] (dN 15 (dZ F L) s)=true then (dJ F (dL (dN 15 (dZ F L) s)),true) else (dN 15 (dZ F L) s,false)) else (s,false)):=fun s hs=>
  LC.ite (fun hc=>by
    obtain⟨h1,h2⟩:=oS hL hc;refine LC.ite (fun hy=>?_) (fun _=>LC.no h1);have h3:=Gd.next (dX hy (by decide));have h4:=dW h3.1.N;refine LC.yes ⟨by simpa using (h1.trans h3.1).trans h4,?_⟩
    have:=h3.2.1
    have:=h4.p
    omega) (fun _=>LC.no (Gd.refl hs))
theorem Gz (hL:GL F L) {s:Ps} (hs:s.p≤F.length):Gd F.length 3 s (je F L s):=by
  have h1:=gP hs;have h2:=dW h1.N;have h3:=fA (F:=F) (c:=107) (by decide) h2.N;have h4:=dW h3.N;have h5:=Gd.loop (iz hL) _ _ rfl h4.N
  exact((((h1.trans h2).trans h3).trans h4).trans h5).trans (fA (F:=F) (c:=122) (by decide) h5.N)
theorem mA (hL:GL F L) (c:UInt8) {s:Ps} (hs:s.p≤F.length):Gd F.length 14 s (mz F L c s):=by
  unfold mz;have hb:=fG hL hs
  repeat' split
  ·exact(hb.trans (fA (F:=F) (c:=41) (by decide) hb.N)).mono (by omega)
  ·exact JF hL hs
  ·exact(hb.trans (KJ hL hb.N)).mono (by omega)
  ·exact(JE hL hs).mono (by omega)
  ·exact(Gz hL hs).mono (by omega)
  ·exact(hb.trans (fA (F:=F) (c:=125) (by decide) hb.N)).mono (by omega)
theorem jR {s:Ps} (h:gw F s=true):s.p<F.length:=dX ((aS _ _).mp h).2 (by decide)
theorem Kd (c:UInt8):1≤pW c∧pW c≤16:=by
  unfold pW
  repeat' split
  all_goals omega
theorem Cm (hL:GL F L) {s:Ps} (h:s.p<F.length):Gd F.length 0 s (gV F L s)∧s.p<(gV F L s).p:=by
  have h1:∀t:Ps,t.p=s.p→Gd F.length 14 (dL t) (gr F (mz F L (sg F s.p) (dL t))):=fun t ht=>by
    have h0:=(Gd.next (N:=F.length) (s:=t) (by omega)).1;have h2:=mA hL (sg F s.p) h0.N;simpa using h2.trans (rT h2.N)
  have h3:=Gd.nest (k:=pW (sg F s.p)) (s:=s) (A:=0) (N:=F.length) (f:=fun t=>gr F (mz F L (sg F s.p) (dL t))) (fun t ht _=>(Gd.paid (by omega) (h1 t ht) (by omega)).1) (Kd _);have h4:s.p<(gV F L s).p:=by
    have:=(h1 {s with deep:=s.deep+1,l:=s.l++[⟨pW (sg F s.p),s.p,0,s.up⟩],up:=(s.l.length:Int)} rfl).p
    exact bq (dA _) this
  refine⟨⟨h3.p,h3.N,h3.l,?_,h3.up,h3.dp,h3.f⟩,h4⟩;have hb:=(h1 {s with deep:=s.deep+1,l:=s.l++[⟨pW (sg F s.p),s.p,0,s.up⟩],up:=(s.l.length:Int)} rfl).b;show (jf _ _ _).length+_≤_;rw[ig];have e1:(dL {s with deep:=s.deep+1,l:=s.l++[⟨pW (sg F s.p),s.p,0,s.up⟩],up:=(s.l.length:Int)}).l.length=s.l.length+1:=by simp[dL]
  have e2:(dL {s with deep:=s.deep+1,l:=s.l++[⟨pW (sg F s.p),s.p,0,s.up⟩],up:=(s.l.length:Int)}).p=s.p+1:=rfl;rw[e1,e2] at hb;show (gr F (mz F L (sg F s.p) (dL {s with deep:=s.deep+1,l:=s.l++[⟨pW (sg F s.p),s.p,0,s.up⟩],up:=(s.l.length:Int)}))).l.length+16*s.p≤s.l.length+16*(gr F (mz F L (sg F s.p) (dL {s with deep:=s.deep+1,l:=s.l++[⟨pW (sg F s.p),s.p,0,s.up⟩],up:=(s.l.length:Int)}))).p+0;omega
theorem KN {s:Ps} (h:sg F s.p=120):iR F s.p=true:=by
  unfold sg at h;unfold iR
  cases hx:F[s.p]? with
  | none=>rw[hx] at h;cases h
  | some x=>
    rw[hx] at h;simp only[uO] at h;simp only[aN];by_cases h2:x.kd=2
    ·rw[aC h2] at h;cases h
    ·rw[aB h2] at h;by_cases h4:x.kd=4
     ·rw[aC h4] at h;exfalso
      revert h
      generalize iE x.tx=o;unfold Dk;split<;>decide
     ·rw[aB h4] at h;by_cases h5:x.kd=5
      ·rw[aC h5] at h;cases h
      ·rw[aB h5] at h;by_cases h6:x.kd=6
       ·exact h6
       ·rw[aB h6] at h;cases h
theorem Bf (hL:GL F L) {s:Ps} (h:sg F s.p=120):Gd F.length 2 s (lT F L s)∧s.p<(lT F L s).p∧(lT F L s).l.length+16*s.p+13≤s.l.length+16*(lT F L s).p:=by
  have hw:=KN h;have h1:=fY (F:=F) (k:=7) (fN hw);have e1:eD F s=er 7 s:=by unfold eD;rw[aC hw]
  have h2:=fW (F:=F) (cs:=[40]) (by decide) h1.1.N;have h3:=fA (F:=F) (c:=41) (by decide) h2.N;have h4:=(h2.trans h3).trans (dW h3.N);rw[←e1] at h1 h4;have hl:(eD F s).l.length=s.l.length+1∧(eD F s).p=s.p+1:=by
    rw[e1];exact⟨by show (jf (s.l++_) _ _).length=_;rw[ig];simp,rfl⟩
  have h5:Gd F.length 1 (dJ F (eB F 41 (eA F [40] (eD F s)))) (lT F L s):=by
    unfold lT;exact Gd.ite (fun hc=>(Cm hL (jR hc)).1.mono (by omega)) (fun _=>g9 h4.N)
  have h6:=h4.trans h5;have h7:=h6.b;have h8:=h6.p;refine⟨⟨?_,h6.N,?_,?_,h6.up.trans h1.1.up,h6.dp.trans h1.1.dp,(h1.1.trans h6).f⟩,?_,?_⟩
  ·omega
  ·have:=h6.l;omega
  ·omega
  ·omega
  ·omega
theorem uo (hL:GL F L) {s:Ps} (hs:s.p≤F.length):Gd F.length 1 s (iV F L s):=by
  unfold iV;refine Gd.ite (fun hc=>(Cm hL (jR hc)).1.mono (by omega)) (fun _=>Gd.ite (fun hf=>?_) (fun _=>Gd.ite (fun _=>?_) (fun _=>g9 hs)))
  ·have hx:sg F s.p=120:=by unfold nZ at hf;simp at hf;exact hf.1
   refine(Gd.nest (k:=16) (A:=0) fun t ht _=>?_);have h1:=Bf hL (s:=t) (by rw[ht];exact hx);exact⟨h1.1.p,h1.1.N,h1.1.l,by have:=h1.2.2;omega,h1.1.up,h1.1.dp,h1.1.f⟩
  ·exact Gd.node0 (A:=0) fun t ht _=>wO (by omega)
theorem l9 (hL:GL F L):∀s:Ps,s.p≤F.length→LC F.length 0 s (if dO F [124] s=true then (iV F L (dJ F (dL s)),true) else (s,false)):=fun s hs=>
  LC.ite (fun hc=>LC.yes (by
    have h0:=dX hc (by decide);have h1:=dW (Gd.next h0).1.N;exact Gd.paid h0 (h1.trans (uo hL h1.N)) (by omega))) (fun _=>LC.no (Gd.refl hs))
theorem uj (hL:GL F L) {s:Ps} (hs:s.p≤F.length):Gd F.length 1 s (lz F L s):=by
  have h1:=fW (F:=F) (cs:=[33]) (by decide) hs;have h2:=uo hL h1.N
  exact((h1.trans h2).trans (Gd.loop (l9 hL) _ _ rfl h2.N)).mono (au _)
theorem um (hL:GL F L) {s:Ps} (hs:s.p≤F.length):Gd F.length 2 s (jZ F L s):=
  Gd.ite (fun _=>Gd.node0 (A:=1) fun t ht _=>uj hL (by omega)) (fun _=>(g9 hs).mono (by omega))
theorem sE (hL:GL F L):∀s:Ps,s.p≤F.length→LC F.length 0 s (if dO F [97,111] s=true then (jZ F L (dJ F (dL s)),true) else (s,false)):=fun s hs=>
  LC.ite (fun hc=>LC.yes (by
    have h0:=dX hc (by decide);have h1:=dW (Gd.next h0).1.N;exact Gd.paid h0 (h1.trans (um hL h1.N)) (by omega))) (fun _=>LC.no (Gd.refl hs))
theorem nY (hL:GL F L) {s:Ps} (hs:s.p≤F.length):Gd F.length 2 s (eT F L s):=by
  have h1:=um hL hs
  exact(h1.trans (Gd.loop (sE hL) _ _ rfl h1.N)).mono (au _)
theorem kQ (hL:GL F L):∀s:Ps,s.p≤F.length→LC F.length 3 s (iQ F (dN 3 (eT F L) s)):=fun s hs=>by
  have h1:=Gd.node0 (k:=3) (s:=s) (f:=eT F L) (A:=2) (N:=F.length) fun t ht _=>nY hL (by omega)
  have key:∀t,Gd F.length 0 (dN 3 (eT F L) s) t→(dN 3 (eT F L) s).p<t.p→t.l.length+16*(dN 3 (eT F L) s).p+16≤(dN 3 (eT F L) s).l.length+16*t.p→∀b,LC F.length 3 s (t,b):=fun t ht hlt hb b=>by
    have h2:=h1.trans ht;have h3:=h1.p;have h4:=h1.b;exact⟨fun _=>⟨⟨h2.p,h2.N,h2.l,by show t.l.length+16*s.p≤s.l.length+16*t.p+0;omega,h2.up,h2.dp,h2.f⟩,by show s.p<t.p;omega⟩,fun _=>h2⟩
  have step:∀r:Ps,r.p<F.length→Gd F.length 0 r (dJ F (dL r))∧r.p<(dJ F (dL r)).p∧(dJ F (dL r)).l.length+16*r.p+16≤r.l.length+16*(dJ F (dL r)).p:=fun r hr=>by
    have a:=Gd.next (N:=F.length) hr;have b:=dW a.1.N;exact⟨a.1.trans b,by have:=a.2.1;have:=b.p;omega,by have:=a.2.2;have:=b.b;omega⟩
  unfold iQ;refine LC.ite (fun hc=>?_) (fun _=>LC.ite (fun hc=>?_) (fun _=>LC.no h1))
  ·obtain⟨a,b,c⟩:=step _ (dX hc (by decide));exact key _ a b c _
  ·have e:dJ F (dN 3 (eT F L) s)=dJ F (dL (dN 3 (eT F L) s)):=by
     unfold dJ;rw[LC.eq lj _ h1.N];simp only[hc,bN]
   obtain⟨a,b,c⟩:=step _ (dX hc (by decide));rw[e];exact key _ a b c _
theorem Gy (hL:GL F L) {s:Ps} (hs:s.p≤F.length):Gd F.length 3 s (mt F L s):=Gd.loop (kQ hL) _ s rfl hs
end
theorem jQ (F:List Lf):∀n,GL F (uT F n)
  | 0=>fun s hs=>(Gd.refl hs).mono (by omega)
  | n+1=>fun s hs=>Gy (jQ F n) hs
def fR (F:List Lf) (L:Ps→Ps) (x:Ps×Bool):(Ps×Bool)×Bool:=
  if dO F [110] x.1=true then ((dL x.1,x.2),true) else if (!x.2&&fM F x.1)=true then ((dN 2 L x.1,true),true) else if x.1.p<F.length then ((er 17 x.1,false),true) else (x,false)
def iY (x:Ps×Bool):Nat:=2*x.1.p+(if x.2=true then 1 else 0)
def l8 (F:List Lf) (L:Ps→Ps) (x:Ps×Bool):Ps×Bool:=nU (fR F L) (2*F.length+2-iY x) x
theorem BY {F:List Lf} {s:Ps} (h:fM F s=true):s.p<F.length:=by
  refine tu fun e=>?_
  unfold fM pn eN gw dO at h;rw[e] at h;simp at h
theorem nO {F:List Lf} {L:Ps→Ps} (hL:GL F L) (x:Ps×Bool) (hx:x.1.p≤F.length) (hc:(fR F L x).2=true):iY x<iY (fR F L x).1∧(fR F L x).1.1.p≤F.length∧Gd F.length (if x.2=true then 0 else 4) x.1 (fR F L x).1.1 ∧
    ((fR F L x).1.1.l.length+16*x.1.p+(if (fR F L x).1.2=true then 0 else 4)≤x.1.l.length+16*(fR F L x).1.1.p+(if x.2=true then 0 else 4)):=by
  obtain⟨s,b⟩:=x;replace hx:s.p≤F.length:=hx;unfold fR at hc ⊢;unfold iY;by_cases h1:dO F [110] s=true
  ·have h2:=Gd.next (dX h1 (by decide));simp only[h1,bN];refine⟨?_,h2.1.N,h2.1.mono (by omega),?_⟩
   ·have:=h2.2.1;omega
   ·have:=h2.2.2;omega
  ·simp only[h1,bu,aK] at hc ⊢;by_cases h2:(!b&&fM F s)=true
   ·obtain⟨rfl,h3⟩:b=false∧fM F s=true:=by simpa using h2
    have h4:=Gd.node0 (k:=2) (s:=s) (f:=L) (A:=3) (N:=F.length) fun t ht _=>hL t (by omega)
    simp only[h2,bN,bu,aK];refine⟨?_,h4.N,h4,?_⟩
    ·have:=h4.p;omega
    ·have:=h4.b;omega
   ·simp only[h2,bu,aK] at hc ⊢;by_cases h3:s.p<F.length
    ·have h4:=fY (F:=F) (k:=17) h3;have e9:(er 17 s).l.length=s.l.length+1:=by show (jf (s.l++_) _ _).length=_;rw[ig];simp
     have e8:(er 17 s).p=s.p+1:=rfl;simp only[h3,bN,bu,aK];refine⟨?_,h4.1.N,h4.2.2.mono (by omega),?_⟩
     ·split<;>omega
     ·split<;>omega
    ·simp only[h3,bu] at hc
     cases hc
theorem mG {F:List Lf} {x:Ps×Bool} (h:x.1.p≤F.length):iY x≤2*F.length+1:=by
  unfold iY;split<;>omega
theorem qD {F:List Lf} {L:Ps→Ps} (hL:GL F L) (x:Ps×Bool) (hx:x.1.p≤F.length):l8 F L x=if (fR F L x).2=true then l8 F L (fR F L x).1 else (fR F L x).1:=by
  have h0:=mG hx;unfold l8;obtain⟨k,hk⟩:∃k,2*F.length+2-iY x=k+1:=⟨2*F.length+1-iY x,by omega⟩;rw[hk];show (if (fR F L x).2=true then nU (fR F L) k (fR F L x).1 else (fR F L x).1)=_;have fuel:∀k k' (y:Ps×Bool),y.1.p≤F.length→2*F.length+1<k+iY y→2*F.length+1<k'+iY y→nU (fR F L) k y=nU (fR F L) k' y:=by
    intro k
    induction k with
    | zero=>intro k' y hy h1 h2;have:=mG hy;omega
    | succ k ih=>
      intro k' y hy h1 h2
      cases k' with
      | zero=>have:=mG hy;omega
      | succ k'=>
        unfold nU;by_cases hc:(fR F L y).2=true
        ·have:=nO hL y hy hc
         rw[aC hc,aC hc,ih k' _ this.2.1 (by omega) (by omega)]
        ·rw[aB hc,aB hc]
  by_cases hc:(fR F L x).2=true
  ·have:=nO hL x hx hc
   rw[aC hc,aC hc,fuel k (2*F.length+2-iY (fR F L x).1) _ this.2.1 (by omega) (by have:=mG this.2.1;omega)]
  ·rw[aB hc,aB hc]
theorem qU {F:List Lf} {L:Ps→Ps} (hL:GL F L):∀m x,2*F.length+1-iY x=m→x.1.p≤F.length→Gd F.length (if x.2=true then 0 else 4) x.1 (l8 F L x).1∧(l8 F L x).1.p=F.length:=by
  intro m
  induction m using Nat.strongRecOn with
  | _ m ih=>
    intro x hm hx;rw[qD hL x hx];by_cases hc:(fR F L x).2=true
    ·have h1:=nO hL x hx hc;have h2:=mG h1.2.1;obtain⟨h3,h4⟩:=ih _ (by omega) _ rfl h1.2.1;rw[aC hc];have h5:=h1.2.2.1.trans h3;have h6:=h1.2.2.2;have h7:=h3.b;exact⟨⟨h5.p,h5.N,h5.l,by omega,h5.up,h5.dp,h5.f⟩,h4⟩
    ·rw[aB hc];obtain⟨s,b⟩:=x;replace hx:s.p≤F.length:=hx;unfold fR at hc ⊢;by_cases h1:dO F [110] s=true
     ·simp[h1] at hc
     ·simp only[h1,bu,aK] at hc ⊢;by_cases h2:(!b&&fM F s)=true
      ·simp[h2] at hc
      ·simp only[h2,bu,aK] at hc ⊢;by_cases h3:s.p<F.length
       ·simp[h3] at hc
       ·simp only[h3,bu];exact⟨(Gd.refl hx).mono (by omega),by show s.p=_;omega⟩
def jO (a:Nat):Ps:=⟨a,[], -1,0⟩
abbrev MW (F:List Lf):Ps→Ps:=uT F (F.length+1)
def eF (F:List Lf):Ps:=dN 1 (fun s=>(l8 F (MW F) (s,false)).1) (jO 0)
theorem Gx (F:List Lf):Gd F.length 5 (jO 0) (eF F)∧(eF F).p=F.length:=by
  have h:=fun t (ht:t.p=(jO 0).p)=>qU (jQ F (F.length+1)) _ (t,false) rfl (by rw[ht];exact br _)
  exact⟨Gd.node0 (A:=4) fun t ht _=>(h t ht).1,(h {jO 0 with l:=(jO 0).l++[⟨1,(jO 0).p,0,(jO 0).up⟩],up:=((jO 0).l.length:Int)} rfl).2⟩
end
end Go.Proofs.YtcagfamdoaoimaaGreatDoor
