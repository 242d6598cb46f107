/- Tokens of any numbers: the bytes of one, and the leaves of a row (token.Text, token.Leaves). -/
import Derived.Test.YtmclohkaiemnaaaGreatDoorMem
import Derived.Test.YtmclohkaiemnaaaGreatDoorSa9
import Derived.Test.YtmclohkaiemnaaaGreatDoorLa9
import Derived.Test.YtmclohkaiemnaaaGreatDoorPa0
set_option linter.unusedVariables false
set_option linter.unusedSimpArgs false
set_option maxRecDepth 100000
set_option maxHeartbeats 8000000
namespace Go.Proofs.YtmclohkaiemnaaaGreatDoor
open Go.RowKit
structure Tz where
  kd:Int
  fr:Int
  to:Int
  op:Bool
def Oc (t:Tz):List Value:=[.int .i64 t.kd,.int .i64 t.fr,.int .i64 t.to,.bool t.op]
theorem Ij (t:Tz):(Oc t).length=4:=rfl
def BY (l:List UInt8) (t:Tz):Bool:=decide (0≤t.fr)&&decide (t.fr≤t.to)&&decide (t.to≤(l.length:Int))
def KE (l:List UInt8) (t:Tz):List UInt8:=if BY l t=true then sub l t.fr.toNat t.to.toNat else []
structure Lf where
  kd:Int
  tx:List UInt8
  fr:Int
  to:Int
def KZ (x:Lf):List Value:=[.int .i64 x.kd,.string ⟨x.tx.toArray⟩,.int .i64 x.fr,.int .i64 x.to]
def gv (L:List Lf):List Value:=L.flatMap KZ
theorem FH (L M:List Lf):gv (L++M)=gv L++gv M:=by simp[gv]
theorem LZ (x:Lf):∀u∈gv [x],u.oneCell'=true:=by
  intro u hu;simp[gv,KZ] at hu;rcases hu with rfl|rfl|rfl|rfl<;>rfl
def qq (k:Int):Bool:=k==4||k==5||k==6||k==2
def se (l:List UInt8) (t:Tz):List Lf:=if BY l t=true∧qq t.kd=true then [⟨t.kd,KE l t,t.fr,t.to⟩] else []
def im (l:List UInt8) (ts:List Tz):List Lf:=ts.flatMap (se l)
theorem nM (l:List UInt8):∀(ts:List Tz),(im l ts).length≤ts.length
  | []=>au _
  | t::r=>by
    have:=nM l r
    have h:(se l t).length≤1:=by unfold se;split<;>simp
    show (se l t++im l r).length≤_;rw[aD,aL];omega
theorem wF (l:List UInt8) (ts:List Tz) {k:Nat} {t:Tz} (h:ts[k]? = some t):im l (ts.take (k+1))=im l (ts.take k)++se l t:=by
  rw[List.take_add_one,h];simp[im]
theorem yB (l:List UInt8) (t:Tz) :
    (decide (t.fr<0)=true∧BY l t=false)∨(decide (t.fr<0)=false∧decide (t.to<t.fr)=true∧BY l t=false) ∨
    (decide (t.fr<0)=false∧decide (t.to<t.fr)=false∧decide ((l.length:Int)<t.to)=true∧BY l t=false) ∨
    (decide (t.fr<0)=false∧decide (t.to<t.fr)=false∧decide ((l.length:Int)<t.to)=false∧BY l t=true):=by
  unfold BY;simp only[bT,cM,aR,Bool.and_eq_false_iff];omega
theorem Iu (l:List UInt8) (t:Tz) (w:World) (hl:l.length≤9223372036854775807) :
    jJ 72 #[.string ⟨l.toArray⟩,.agg #[.int .i64 t.kd,.int .i64 t.fr,.int .i64 t.to,.bool t.op]] w (.string ⟨(KE l t).toArray⟩):=by
  unfold KE;obtain⟨kd,fr,to,op⟩:=t;have hw:=yB l ⟨kd,fr,to,op⟩;generalize BY l ⟨kd,fr,to,op⟩=b at hw ⊢;rcases hw with ⟨d0,rfl⟩|⟨d0,d1,rfl⟩|⟨d0,d1,d2,rfl⟩|⟨d0,d1,d2,rfl⟩
  iterate 3
    ·have d0:decide (fr<0)=_:=d0;try have d1:decide (to<fr)=_:=d1
     try have d2:decide ((l.length:Int)<to)=_:=d2
     go_enter Tryz.func72,Tryz.ntmps72;go_wp2;go_ret;exact⟨rfl,br (ay _ _) (au _) _⟩
  ·have d0:decide (fr<0)=_:=d0;have d1:decide (to<fr)=_:=d1;have d2:decide ((l.length:Int)<to)=_:=d2;have e0:¬fr<0:=by simpa using d0
   have e1:¬to<fr:=by simpa using d1
   have e2:¬(l.length:Int)<to:=by simpa using d2
   have v0:(0:Int)≤fr:=by omega
   have v1:fr≤to:=by omega
   have v2:to≤(l.length:Int):=by omega
   rw[aB rfl];go_enter Tryz.func72,Tryz.ntmps72;go_wp2;go_ret;refine⟨?_,?_⟩
   ·rw[fq];rfl
   ·exact br (ay _ _) (au _) _
theorem Tryz.infoLeaf:(Tryz.prog.info? 42).map (fun i=>(i.zero,i.size,i.bytes))=some (some (.agg #[.int .i64 0,.string ⟨#[]⟩,.int .i64 0,.int .i64 0]),4,40):=by kernel_rfl
theorem AB (k:Int):((k==4)=true∧qq k=true)∨((k==4)=false∧(k==5)=true∧qq k=true)∨((k==4)=false∧(k==5)=false∧(k==6)=true∧qq k=true) ∨
    ((k==4)=false∧(k==5)=false∧(k==6)=false∧(k==2)=true∧qq k=true)∨((k==4)=false∧(k==5)=false∧(k==6)=false∧(k==2)=false∧qq k=false):=by
  unfold qq
  cases h4:k==4<;>cases h5:k==5<;>cases h6:k==6<;>cases h2:k==2<;>simp
theorem FM (l:List UInt8) (ts:List Tz) (A:Option Addr) (c:Nat) (w:World) (hl:l.length≤100000) (ht:ts.length≤100000) (hR:Rd w w.heap.size 4 (.slice A ts.length c) ts.length (ts.flatMap Oc)) :
    Calls Tryz.prog 49 #[.string ⟨l.toArray⟩,.slice A ts.length c] w fun e w'=>∃v,e=.returned v∧w'.ownsRow w.heap.size 42 4 v (im l ts).length (gv (im l ts))∧Below w.heap.size w w':=by
  obtain⟨i0,hi0,hz0,hz1,hz2⟩:=cL Tryz.infoLeaf;have H0:=ac hR;clear hR;go_enter Tryz.func49,Tryz.ntmps49;go_wp2;go_loopw [4,6,9] (fun o b i wr=>∃k:Nat,k≤ts.length∧i=.int .i64 k∧wr.ownsRow w.heap.size 42 4 o (im l (ts.take k)).length (gv (im l (ts.take k)))∧Below w.heap.size w wr) (fun o b i _=>ts.length-(intOf i).toNat)
  case atStart=>exact⟨0,bq _,rfl,de _ _ _ _,ay _ _⟩
  case round=>
    obtain⟨k,hk,rfl,ho,hb⟩:=hrel;by_cases hlt:k<ts.length
    ·obtain⟨⟨kd,fr,to,op⟩,hget⟩:∃t,ts[k]? = some t:=⟨_,ax hlt⟩;obtain⟨g,q,rfl,_,hc⟩:=fW Ij (H0.out.keep hb (au _)) hget rfl;have y0:wr.cell? ⟨g,q+k*4,none⟩=some (.int .i64 kd):=hc 0 _ rfl;have y1:wr.cell? ⟨g,q+k*4+1,none⟩=some (.int .i64 fr):=hc 1 _ rfl;have y2:wr.cell? ⟨g,q+k*4+2,none⟩=some (.int .i64 to):=hc 2 _ rfl;have y3:wr.cell? ⟨g,q+k*4+3,none⟩=some (.bool op):=hc 3 _ rfl;have u1:(k:Int)<(ts.length:Int):=by omega
     have u2:(0:Int)≤(k:Int):=by omega
     have hlen:(im l (ts.take k)).length≤100000:=by
       have:=nM l (ts.take k)
       rw[bz] at this;omega
     have hsuc:=wF l ts hget;obtain⟨L,hL⟩:∃L,L=im l (ts.take k):=⟨_,rfl⟩;have hleaf:∀b b',BY l ⟨kd,fr,to,op⟩=b→qq kd=b'→se l ⟨kd,fr,to,op⟩=if b=true∧b'=true then [⟨kd,KE l ⟨kd,fr,to,op⟩,fr,to⟩] else []:=by rintro b b' rfl rfl;rfl
     have htx:∀W,l.length≤9223372036854775807→jJ 72 #[.string ⟨l.toArray⟩,.agg #[.int .i64 kd,.int .i64 fr,.int .i64 to,.bool op]] W (.string ⟨(KE l ⟨kd,fr,to,op⟩).toArray⟩):=Iu l ⟨kd,fr,to,op⟩;rw[←hL] at hsuc ho hlen;have hways:(decide (fr<0)=true∧BY l ⟨kd,fr,to,op⟩=false)∨(decide (fr<0)=false∧decide (to<fr)=true∧BY l ⟨kd,fr,to,op⟩=false)∨(decide (fr<0)=false∧decide (to<fr)=false∧decide ((l.length:Int)<to)=true∧BY l ⟨kd,fr,to,op⟩=false)∨(decide (fr<0)=false∧decide (to<fr)=false∧decide ((l.length:Int)<to)=false∧BY l ⟨kd,fr,to,op⟩=true):=yB l ⟨kd,fr,to,op⟩;have kways:=AB kd;generalize BY l ⟨kd,fr,to,op⟩=bi at hways hleaf;generalize qq kd=bk at kways hleaf;have hleaf:=hleaf bi bk rfl rfl;obtain⟨X,hX⟩:∃X,X=KE l ⟨kd,fr,to,op⟩:=⟨_,rfl⟩;rw[←hX] at hleaf htx;obtain⟨A2,n2,c2,rfl⟩:=eA ho;obtain rfl:=ff ho;have HP:=ac (ae ho (ae hb (ae hsuc (ae hleaf htx))));clear ho hb hsuc hleaf htx hc hget hL hX;have hskip:se l ⟨kd,fr,to,op⟩=[]→((∃m:Nat,m≤ts.length∧Value.int .i64 ((k:Int)+1)=.int .i64 m∧(wr.alloc (.cells #[.int .i64 kd,.int .i64 fr,.int .i64 to,.bool op] 92)).ownsRow w.heap.size 42 4 (.slice A2 L.length c2) (im l (ts.take m)).length (gv (im l (ts.take m)))∧Below w.heap.size w (wr.alloc (.cells #[.int .i64 kd,.int .i64 fr,.int .i64 to,.bool op] 92)))):=by
       intro h0;have hs:=HP.out.2.2.1;rw[h0,bB] at hs;refine⟨k+1,by omega,by go_num,?_,HP.out.2.1.alloc HP.out.2.1.size _⟩;rw[hs];exact HP.out.1.alloc _
     have HK:=ac hskip;clear hskip;rcases hways with ⟨d0,rfl⟩|⟨d0,d1,rfl⟩|⟨d0,d1,d2,rfl⟩|⟨d0,d1,d2,rfl⟩
     iterate 3
       ·clear kways hleaf;go_wp2_with fail;exact⟨HK.out (by rw[HP.out.2.2.2.1];simp),by simp[intOf];omega⟩
     ·rcases kways with ⟨k4,rfl⟩|⟨k4,k5,rfl⟩|⟨k4,k5,k6,rfl⟩|⟨k4,k5,k6,k2,rfl⟩|⟨k4,k5,k6,k2,rfl⟩
      iterate 4
        ·go_upto_region 10 with fail
         refine li fun W hbW hkW hsW=>?_
         have hoW:=eC HP.out.1 hbW;have hbw:=HP.out.2.1.trans (hbW.mono HP.out.2.1.size);obtain⟨b0,b1,b2,b3⟩:W.cell? ⟨wr.heap.size,0,none⟩=some (.int .i64 kd)∧W.cell? ⟨wr.heap.size,1,none⟩=some (.int .i64 fr)∧W.cell? ⟨wr.heap.size,2,none⟩=some (.int .i64 to)∧W.cell? ⟨wr.heap.size,3,none⟩=some (.bool op):=
           ⟨by rw[hkW.cell];rfl,by rw[hkW.cell];rfl,by rw[hkW.cell];rfl,by rw[hkW.cell];rfl⟩
         have hne:some wr.heap.size≠(Value.slice A2 L.length c2).ownBlock:=fun h=>by have:=(HP.out.1.lt _ h.symm).2;omega
         have HW:=ac (ae hoW (ae hbw (ae hkW hne)));clear hoW hbw hbW hkW hsW hne y0 y1 y2 y3
         go_region_held3 (fun w'=>w'.cell? ⟨wr.heap.size,0,none⟩=some (.int .i64 kd)∧w'.cell? ⟨wr.heap.size,1,none⟩=some (.int .i64 fr)∧w'.cell? ⟨wr.heap.size,2,none⟩=some (.int .i64 to)∧w'.cell? ⟨wr.heap.size,3,none⟩=some (.bool op))
           (first
             | with_reducible exact⟨b0,b1,b2,b3⟩
             | go_keep)
           (first
             | (go_at_call 72;with_reducible refine(HP.out.2.2.2.2 _ (by omega)).mono ?_
                rintro e w5 ⟨rfl,hb5⟩;have hb6:Below W.heap.size W w5:=(dX (ay _ W) 1).trans hb5;have k5:=HW.out.2.2.1.below hb6 HW.out.2.2.1.lt;have o5:=eC HW.out.1 hb6;have w5b:=HW.out.2.1.trans (hb6.mono HW.out.2.1.size);obtain⟨b0,b1,b2,b3⟩:w5.cell? ⟨wr.heap.size,0,none⟩=some (.int .i64 kd)∧w5.cell? ⟨wr.heap.size,1,none⟩=some (.int .i64 fr)∧w5.cell? ⟨wr.heap.size,2,none⟩=some (.int .i64 to)∧w5.cell? ⟨wr.heap.size,3,none⟩=some (.bool op):=
                  ⟨by rw[k5.cell];rfl,by rw[k5.cell];rfl,by rw[k5.cell];rfl,by rw[k5.cell];rfl⟩
                have H5:=ac (ae k5 (ae o5 w5b));clear hb5 hb6 k5 o5 w5b)
             | (refine gr rfl (.tmp 37) (.tmp 48) 22 rfl w.heap.size 42 i0 _ 4 40 Tryz.underlying22 hi0 hz0 hz1 hz2 rfl (by decide) (.slice A2 L.length c2) L.length (gv L) (by simp[Act.eval]) (H5.out.2.1.alloc _) (.slice (some ⟨w5.heap.size,0,none⟩) 1 1) 1 (w5.heap.size+1) (gv [⟨kd,X,fr,to⟩]) (by simp[Act.eval]) (iK w5 (gv [⟨kd,X,fr,to⟩]) 42 4 1 rfl (by omega)) (LZ _) (by unfold maxLen;omega) (by omega) (by have:=H5.out.2.2.size;simp;omega) ?_;intro v6 w6 hown6 hg6 hv6;have k6:Bk w6 wr.heap.size 92 #[.int .i64 kd,.int .i64 fr,.int .i64 to,.bool op]:=(H5.out.1.alloc _).grown hg6 HW.out.2.2.2;obtain⟨b0,b1,b2,b3⟩:w6.cell? ⟨wr.heap.size,0,none⟩=some (.int .i64 kd)∧w6.cell? ⟨wr.heap.size,1,none⟩=some (.int .i64 fr)∧w6.cell? ⟨wr.heap.size,2,none⟩=some (.int .i64 to)∧w6.cell? ⟨wr.heap.size,3,none⟩=some (.bool op):=
                  ⟨by rw[k6.cell];rfl,by rw[k6.cell];rfl,by rw[k6.cell];rfl,by rw[k6.cell];rfl⟩
                have H6:=ac (ae hown6 hg6);clear hown6 hg6 hv6 k6))
         all_goals (
           go_wp2_with fail;have hs:=HP.out.2.2.1;rw[HP.out.2.2.2.1,aB (by simp)] at hs;refine⟨⟨k+1,by omega,by go_num,?_,?_⟩,by simp[intOf];omega⟩
           ·rw[hs,FH,aD];exact H6.out.1
           ·exact dV (H5.out.2.2.alloc H5.out.2.2.size _) H6.out.2 (by have:=H5.out.2.2.size;simp;omega) (fun kk hk=>(H5.out.2.1.lt kk hk).1))
      ·go_wp2_with fail;exact⟨HK.out (by rw[HP.out.2.2.2.1];simp),by simp[intOf];omega⟩
    ·obtain rfl:k=ts.length:=by omega
     rw[dc] at ho;have HP:=ac (ae ho hb);clear ho hb;go_wp2_with fail;go_ret;exact⟨_,rfl,HP.out⟩
end Go.Proofs.YtmclohkaiemnaaaGreatDoor
