/- parts.rows and parts.Rows: the rows of bytes of one part. -/
import Derived.Test.YtcagfamdoaoimaaGreatDoorRfy
import Derived.Test.YtcagfamdoaoimaaGreatDoorRg8
set_option linter.unusedVariables false
set_option linter.unusedSimpArgs false
set_option maxRecDepth 100000
set_option maxHeartbeats 8000000
namespace Go.Proofs.YtcagfamdoaoimaaGreatDoor
section
open Go.RowKit
attribute [local go_sem] Oper.semAt_some
structure RV where
  c:Int
  a:Nat
  b:Nat
def Ap (pre:List RV):Nat→Nat
  | 0=>0
  | i+1=>(pre.getD i ⟨0,0,0⟩).b
structure Il (K:Nat→Int) (n:Nat) (pre:List RV) (f:Nat):Prop where
  len:pre.length≤f
  fn:f≤n
  last:Ap pre pre.length=f
  all:∀i r,pre[i]? = some r→r.a=Ap pre i∧r.a<r.b∧r.b≤n∧(∀x,r.a≤x→x<r.b→K x=r.c)∧(r.b<n→K r.b≠r.c)
theorem Il.nil (K:Nat→Int) (n:Nat):Il K n [] 0:=⟨au _,br _,rfl,by intro i r h;simp at h⟩
theorem xV (pre:List RV) (x:RV):∀i,i≤pre.length→Ap (pre++[x]) i=Ap pre i
  | 0,_=>rfl
  | i+1,h=>by
    show ((pre++[x]).getD i (⟨0,0,0⟩:RV)).b=(pre.getD i (⟨0,0,0⟩:RV)).b;rw[aE,aE,aX (by omega)]
theorem Il.snoc {K:Nat→Int} {n f t:Nat} {pre:List RV} (h:Il K n pre f) (h1:f<t) (h2:t≤n) (h3:∀x,f≤x→x<t→K x=K f) (h4:t<n→K t≠K f):Il K n (pre++[⟨K f,f,t⟩]) t:=by
  refine⟨by have:=h.len;simp;omega,h2,?_,?_⟩
  ·rw[aG];show ((pre++[(⟨K f,f,t⟩:RV)]).getD pre.length (⟨0,0,0⟩:RV)).b=t;rw[aE,aY (au _)];simp
  ·intro i r hi;by_cases hp:i<pre.length
   ·rw[aX hp] at hi;rw[xV _ _ _ (by omega)];exact h.all i r hi
   ·rw[aY (by omega)] at hi;have h0:i-pre.length=0:=by have:=(az.1 hi).1;simp at this;omega
    rw[h0] at hi;simp at hi;subst hi;have e:i=pre.length:=by omega
    subst e;rw[xV _ _ _ (au _),h.last];exact⟨rfl,h1,h2,h3,h4⟩
abbrev TR:List TypeId:=[129,126]
abbrev JW (x:RV):Array Value:=#[.agg #[.int .i64 x.c,.int .i64 (x.a:Int),.int .i64 (x.b:Int)]]
theorem EJ (n l' Bn:Nat) (l:List UInt8) (J Jx:List RV→World→Prop) (hl:l.length≤900)
    (hY:∀pre x W,J pre W→pre.length<l.length→YieldAt Fence.wide (n-1) Tryz.prog l' (JW x) W fun e W'=>
      (e=.returned (.bool true)∧J (pre++[x]) W'∧KC TR W W')∨(e=.returned (.bool false)∧Jx (pre++[x]) W'))
    (W:World) (hJ:AbidesFrom W.heap.size J) (hBn:Bk W Bn 9 #[.string ⟨l.toArray⟩]) (h0:J [] W) :
    CallsIn Fence.wide n Tryz.prog 189 #[.func (.yield l') #[] #[],.pointer (some ⟨Bn,0,none⟩)] W fun e W'=>(∃v,e=.returned v) ∧
      ((∃ys,Il (fun x:Nat=>oZ (dQ l) (x:Int) (dQ l).length) l.length ys l.length∧J ys W')∨(∃pre,True∧Jx pre W')):=by
  obtain⟨K,hK⟩:∃K:Nat→Int,K=fun x:Nat=>oZ (dQ l) (x:Int) (dQ l).length:=⟨_,rfl⟩
  rw[←hK];have hpl:=jH l;have HK:=aa (ac hK (ac hJ (ac h0 (ac hY hBn))));have y0:W.cell? ⟨Bn,0,none⟩=some (.string ⟨l.toArray⟩):=by rw[hBn.cell];rfl
  clear hK hJ h0 hY hBn;refine dD Tryz.func189 rfl trivial ?_ rfl;simp only[Tryz.ntmps189,cx,aQ,bS,Nat.reduceAdd,Nat.reduceSub,bQ,bR,cy,bV,cj,bJ];gi_wp2_with (
    (refine⟨trivial,fun h=>by simp[Fence.wide] at h,?_⟩;gi_at_call 115;refine(aR.2 (Lv l _ (by omega))).mono ?_;rintro e w2 ⟨v,rfl,ho,hb2⟩;obtain⟨A,nn,c,rfl⟩:=dR ho;obtain rfl:=eC ho;have H2:=aa (ac ho hb2);clear ho hb2))
  clear y0;gi_loopw [4] (fun i wr=>∃(f:Nat) (pre:List RV),i=.int .i64 f∧Il K l.length pre f∧J pre wr∧KC TR w2 wr) (fun i _=>l.length-(intOf i).toNat)
  case atStart=>exact⟨0,[],rfl,Il.nil _ _,HK.out.2.1 [] W w2 none HK.out.2.2.1 (ug H2.out.2) (by simp),KC.refl _ _⟩
  case round=>
    obtain⟨f,pre,rfl,hok,hJp,hkc⟩:=hrel;have hbk:Bk wr Bn 9 #[.string ⟨l.toArray⟩]:=(HK.out.2.2.2.2.below H2.out.2 HK.out.2.2.2.2.lt).kc hkc (by decide);have y0:wr.cell? ⟨Bn,0,none⟩=some (.string ⟨l.toArray⟩):=by rw[hbk.cell];rfl
    have hrd:Rd wr wr.heap.size 5 (.slice A (dQ l).length c) (dQ l).length (fm (dQ l)):=Rd.of_own (Lp H2.out.1 hkc (by decide));have hfn:=hok.fn;by_cases hfl:f<l.length
    ·have u1:(f:Int)<(l.length:Int):=by omega
     have u2:(0:Int)≤(f:Int):=by omega
     have hof:∀x:Nat,oZ (dQ l) (x:Int) (dQ l).length=K x:=fun x=>by rw[HK.out.1]
     have HR:=aa (ac hok (ac hJp (ac hkc (ac hrd hof))));clear hok hJp hkc hbk hrd hof;obtain⟨wo,rfl⟩:∃wo:World,wo=wr:=⟨_,rfl⟩;gi_wp2_with (
       (refine⟨trivial,fun h=>by simp[Fence.wide] at h,?_⟩;gi_at_call 190;refine(aR.2 (Lu (dQ l) (f:Int) c _ A _ (by omega) rfl HR.out.2.2.2.1)).mono ?_;rintro e w' ⟨he,rfl⟩;rw[HR.out.2.2.2.2] at he;subst he))
     gi_loopw [6] (fun i wx=>∃t:Nat,f<t∧t≤l.length∧i=.int .i64 t∧(∀x,f≤x→x<t→K x=K f)∧wx=wo) (fun i _=>l.length-(intOf i).toNat)
     case atStart=>exact⟨f+1,by omega,by omega,by go_num,fun x h1 h2=>by rw[show x=f by omega],rfl⟩
     case round=>
       obtain⟨t,hft,htl,rfl,hall,rfl⟩:=hrel;have HA:=aa hall;clear hall;by_cases htn:t<l.length
       ·have v1:(t:Int)<(l.length:Int):=by omega
        have v2:(0:Int)≤(t:Int):=by omega
        by_cases hKt:K t=K f
        ·have t1:(K t==K f)=true:=by simpa using hKt
         have HT:=aa hKt;clear hKt;gi_wp2_with (
           (refine⟨trivial,fun h=>by simp[Fence.wide] at h,?_⟩;gi_at_call 190;refine(aR.2 (Lu (dQ l) (t:Int) c _ A _ (by omega) rfl HR.out.2.2.2.1)).mono ?_;rintro e w' ⟨he,rfl⟩;rw[HR.out.2.2.2.2] at he;subst he))
         exact⟨⟨t+1,by omega,by omega,by go_num,fun x h1 h2=>by
           by_cases hx:x=t
           ·rw[hx];exact HT.out
           ·exact HA.out x h1 (by omega),by first|rfl|trivial⟩,by simp[intOf];omega⟩
        ·have t1:(K t==K f)=false:=by simpa using hKt
         have HT:=aa hKt;clear hKt;obtain⟨fn,tmps,assign,body,hy,hR⟩:=HK.out.2.2.2.1 pre ⟨K f,f,t⟩ wr HR.out.2.1 (by have:=HR.out.1.len;omega);have hR2:=aa hR;clear hR;simp only[JW] at hy;have hy2:=aa hy;clear hy;gi_wp2_with (
           (refine⟨trivial,fun h=>by simp[Fence.wide] at h,?_⟩;gi_at_call 190;refine(aR.2 (Lu (dQ l) (t:Int) c _ A _ (by omega) rfl HR.out.2.2.2.1)).mono ?_;rintro e w' ⟨he,rfl⟩;rw[HR.out.2.2.2.2] at he;subst he))
         rw[hy2.out];gi_wp2;refine⟨fun h=>by simp[Fence.wide] at h,?_⟩;refine hR2.out.mono ?_;rintro e W3 (⟨rfl,hJ3,hk3⟩|⟨rfl,hJx3⟩)
         ·have H3:=aa (ac hJ3 hk3);clear hJ3 hk3;gi_wp2;exact⟨⟨t,_,rfl,HR.out.1.snoc hft htl HA.out (by intro _;exact HT.out),H3.out.1,HR.out.2.2.1.trans H3.out.2⟩,by simp[intOf];omega⟩
         ·have H3:=aa hJx3;clear hJx3;gi_wp2;refine bn ?_;exact⟨⟨_,rfl⟩,.inr ⟨_,trivial,H3.out⟩⟩
       ·have v1:¬(t:Int)<(l.length:Int):=by omega
        obtain⟨fn,tmps,assign,body,hy,hR⟩:=HK.out.2.2.2.1 pre ⟨K f,f,t⟩ wr HR.out.2.1 (by have:=HR.out.1.len;omega);have hR2:=aa hR;clear hR;simp only[JW] at hy;have hy2:=aa hy;clear hy;gi_wp2_with fail;refine⟨trivial,?_⟩;gi_wp2_with fail;rw[hy2.out];gi_wp2;refine⟨fun h=>by simp[Fence.wide] at h,?_⟩;refine hR2.out.mono ?_;rintro e W3 (⟨rfl,hJ3,hk3⟩|⟨rfl,hJx3⟩)
        ·have H3:=aa (ac hJ3 hk3);clear hJ3 hk3;gi_wp2;exact⟨⟨t,_,rfl,HR.out.1.snoc hft htl HA.out (by intro h;omega),H3.out.1,HR.out.2.2.1.trans H3.out.2⟩,by simp[intOf];omega⟩
        ·have H3:=aa hJx3;clear hJx3;gi_wp2;refine bn ?_;exact⟨⟨_,rfl⟩,.inr ⟨_,trivial,H3.out⟩⟩
    ·obtain rfl:f=l.length:=by omega
     have HR:=aa (ac hok hJp);clear hok hJp hkc hbk hrd;gi_wp2;go_end0;exact⟨⟨_,rfl⟩,.inl ⟨_,HR.out.1,HR.out.2⟩⟩
theorem K7 (l:List UInt8) (w:World) :
    Calls Tryz.prog 150 #[.string ⟨l.toArray⟩] w fun e w'=>e=.returned (.func (.func 189) #[] #[.pointer (some ⟨w.heap.size,0,none⟩)])∧w'=w.alloc (.cells #[.string ⟨l.toArray⟩] 9):=by
  go_enter Tryz.func150,Tryz.ntmps150;go_wp2;go_ret;exact⟨rfl,rfl⟩
theorem Ak (n Bn:Nat) (l:List UInt8) (w:World) (hl:l.length≤900) (hBn:Bk w Bn 9 #[.string ⟨l.toArray⟩]) :
    SeqStopsK Fence.wide n Tryz.prog 189 #[.pointer (some ⟨Bn,0,none⟩)] JW (KC TR) (fun ys=>Il (fun x:Nat=>oZ (dQ l) (x:Int) (dQ l).length) l.length ys l.length) (fun _=>True) l.length w:=fun l' J Jx W hW hJ _ hY h0=>
  EJ n l' Bn l J Jx hl hY W hJ (hBn.below hW hBn.lt) h0
def pB (x:RV):List Value:=[.int .i64 x.c,.int .i64 (x.a:Int),.int .i64 (x.b:Int)]
def nM (l:List RV):List Value:=l.flatMap pB
theorem Ls (x:RV):∀u∈pB x,u.oneCell'=true:=by
  intro u hu;simp[pB] at hu;rcases hu with rfl|rfl|rfl<;>rfl
theorem xS (l:List RV) (x:RV):nM (l++[x])=nM l++pB x:=by simp[nM]
theorem Tryz.infoRun:(Tryz.prog.info? 129).map (fun i=>(i.zero,i.size,i.bytes))=some (some (.agg #[.int .i64 0,.int .i64 0,.int .i64 0]),3,24):=by kernel_rfl
theorem DJ (W:World) (x:RV):∀j u,(pB x)[j]? = some u→(W.alloc (.cells (pB x).toArray 129)).cell? ((⟨W.heap.size,0,none⟩:Addr).add j)=some u:=by
  intro j u hu;rw[Addr.add_lit,cC,Bk.cell (Bk.new W _ _)];simpa using hu
theorem K8 (l:List UInt8) (w:World) (hl:l.length≤900) :
    Calls Tryz.prog 117 #[.string ⟨l.toArray⟩] w fun e w'=>∃(v:Value) (ys:List RV),e=.returned v∧Il (fun x:Nat=>oZ (dQ l) (x:Int) (dQ l).length) l.length ys l.length∧w'.ownsRow w.heap.size 129 3 v ys.length (nM ys)∧Below w.heap.size w w':=by
  obtain⟨i0,hi,hz0,hz1,hz2⟩:=cz Tryz.infoRun;refine(aR (n:=5)).1 ?_;refine callsIn_of_wp_marks Tryz.func117 rfl trivial ?_ rfl;simp only[Tryz.ntmps117,cx,aQ,bS,Nat.reduceAdd,Nat.reduceSub,bQ,bR,cy,bV,cj,bJ];gi_wp2_with (
    (refine⟨trivial,?_⟩;gi_at_call 150;refine(aR.2 (K7 l _)).mono ?_;rintro e w2 ⟨rfl,rfl⟩))
  obtain⟨W0,hW0⟩:∃W0,(w.alloc (.cells #[.slice none 0 0] 126)).alloc (.cells #[.string ⟨l.toArray⟩] 9)=W0:=⟨_,rfl⟩;have bO:Boxed W0 w.heap.size 126 (.slice none 0 0):=by rw[←hW0];exact(Boxed.new w _ _).alloc _
  have bL:Bk W0 (w.heap.size+1) 9 #[.string ⟨l.toArray⟩]:=by rw[←hW0];have:=Bk.new (w.alloc (.cells #[.slice none 0 0] 126)) 9 #[.string ⟨l.toArray⟩];rwa [bp] at this
  have hs0:W0.heap.size=w.heap.size+2:=by rw[←hW0];simp
  have hb0:Below w.heap.size w W0:=by rw[←hW0];exact((aD _ w).alloc (au _) _).alloc (by simp) _
  rw[hW0];clear hW0;have HW:=aa (ac hb0 bL)
  refine wpIn_rangeFunc_ownH rfl (by omega) (gf:=189) (lb:=#[.pointer (some ⟨w.heap.size+1,0,none⟩)]) rfl trivial (enters_of Tryz.func189 (by kernel_rfl) rfl)
    (Ak (5-1) (w.heap.size+1) l W0 hl bL) (fun h k=>h.trans k) (fun W l o o' hl h1 h2 h3=>KC.put W l o o' h1 h2) (aD _ _) (fun _=>rfl)
    (fun pre W=>(∃v,Boxed W w.heap.size 126 v∧W.ownsRow W0.heap.size 129 3 v pre.length (nM pre)∧True)∧Below w.heap.size w W∧W0.heap.size≤W.heap.size)
    (fun _ _ _=>False)
    (OwnFrom.and (Own.from (holdsRow_own W0.heap.size w.heap.size 126 129 3 (fun pre=>pre.length) (fun pre=>nM pre) (fun pre v=>True)) _) (OwnFrom.and (ownFrom_below (au _) (by omega)) (li _ _)))
    (fun _ _ _ _ _ hs _ _=>hs)
    ⟨⟨_,bO,bT _ _ _ _,trivial⟩,HW.out.1,au _⟩
    (fun x a' W=>∃b,Bk W b 129 (pB x).toArray∧a'={tmps:=#[.string ⟨l.toArray⟩,undef,.pointer (some ⟨w.heap.size,0,none⟩),.pointer (some ⟨b,0,none⟩),.string ⟨l.toArray⟩,.func (.func 189) #[] #[.pointer (some ⟨w.heap.size+1,0,none⟩)],.agg #[.int .i64 x.c,.int .i64 (x.a:Int),.int .i64 (x.b:Int)],undef,undef,undef,undef,undef],defers:=[]})
    (fun x a'=>Hv _ _ _ _) ?assign ?body ?done ?stop
  case assign=>
    intro l' pre x W K hI hK;gi_wp2;refine hK _ _ (ja (aW (aD _ _) (au _) _)) (KC.of_below (aW (aD _ _) (au _) _)) ?_ ⟨_,Bk.new _ _ _,rfl⟩;obtain⟨⟨v,h1,h2,_⟩,h3,h4⟩:=hI;exact⟨⟨v,h1.alloc _,h2.alloc _,trivial⟩,h3.alloc h3.size _,by simp;omega⟩
  case body=>
    rintro l' pre x a' W hl1 hl2 ⟨⟨v,hv,hrow,_⟩,hB,hS⟩ ⟨b,hbk,rfl⟩ hlt;have hc:=hv.cell;have hf:=hv.frozen;have x0:W.cell? ⟨b,0,none⟩=some (.int .i64 x.c):=by rw[hbk.cell];rfl
    have x1:W.cell? ⟨b,1,none⟩=some (.int .i64 (x.a:Int)):=by rw[hbk.cell];rfl
    have x2:W.cell? ⟨b,2,none⟩=some (.int .i64 (x.b:Int)):=by rw[hbk.cell];rfl
    have hpl0:pre.length≤900:=by omega
    gi_wp2_with (
      (gi_at_builtin;refine wpListIn_append_own _ rfl (.tmp 7) (.tmp 9) 126 rfl W0.heap.size 129 i0 _ 3 24 Tryz.underlying126 hi hz0 hz1 hz2 rfl (by decide) v pre.length (nM pre) rfl (hrow.alloc _) ⟨W.heap.size,0,none⟩ 1 1 (pB x) rfl rfl (DJ W x) (Ls x) (by unfold maxLen;omega) (by omega) (by simp;omega) ?_;intro v3 w3 hown3 hg3 _;have hW1:Below W.heap.size W (W.alloc (.cells (pB x).toArray 129)):=aW (aD _ _) (au _) _;have hv3:=ls hv (by decide) hrow hW1 hg3;have hc3:=hv3.cell;have hf3:=hv3.frozen;obtain⟨A3,n3,c3,rfl⟩:=dR hown3;have hkc:KC TR W (w3.setCell ⟨w.heap.size,0,none⟩ (.slice A3 n3 c3)):=((KC.of_below hW1).grown hg3 (fun k hk=>by
         obtain⟨cs,t,fr,q1,q2⟩:=lh (hrow.alloc _) k hk;exact⟨cs,t,fr,q1,by rw[q2];decide⟩)).set hv3 (by decide) _ _
       have H3:=aa (ac hkc (lN (M:=W0.heap.size) hv (by decide) hrow hS (by omega) hW1 hg3 hown3));clear hown3 hg3 hv3 hW1 hkc))
    obtain⟨q0,q1,q2,q3,q4,q5,q6⟩:=H3.out;exact⟨q1,q0,⟨_,q3,by rw[xS,aG];exact q4,trivial⟩,hB.trans (q5 _ (au _)),q6⟩
  case done=>
    rintro D ys W hD hys ⟨⟨v,hv,hrow,_⟩,hB,hS⟩ hK;have hc:=hv.cell;have hf:=hv.frozen;have hv2:=hv.set v;have hrow2:=hrow.kept (grownBy_setCell' W w.heap.size v) (.inr (hv.not_row (by decide) hrow).symm);have hK2:(W.setCell ⟨w.heap.size,0,none⟩ v).heap[D]? = some (.deferred (some [])):=(bH _ _ _ D (by show D≠w.heap.size;omega)).trans hK;have hbk:=belowK_b (w:=w) (au _) (W.setCell ⟨w.heap.size,0,none⟩ v) D (.deferred (some [])) (.deferred none) (by omega) hK2 rfl rfl;have hv3:Boxed ((W.setCell ⟨w.heap.size,0,none⟩ v).putObj D (.deferred none)) w.heap.size 126 v:=(World.putObj_heap_other (by omega)).trans hv2;have hrow3:=hrow2.kept (grownBy_putObj' (W.setCell ⟨w.heap.size,0,none⟩ v) D (.deferred none)) (.inr (fun e=>by have:=gW hrow2 e hK2;cases this));have hc3:=hv3.cell;obtain⟨A,n,c,rfl⟩:=dR hrow;have HD:=aa (ac (hB.setCell (p:=⟨w.heap.size,0,none⟩) (au _) (.slice A n c)) (ac hbk (ac hys hrow3)));have HK2:=aa hK2;clear hB hbk hrow hrow2 hrow3 hys hv2 hv3 hK hK2;gi_wp2;refine⟨by simp,.inl ⟨_,_,rfl,run_takeDeferred HK2.out,?_⟩⟩;refine⟨.slice A n c,by simp[results,Tryz.results117,go_sem,hc3],⟨_,ys,rfl,HD.out.2.2.1,gj HD.out.2.2.2 (by omega),HD.out.1.trans HD.out.2.1⟩⟩
  case stop=>
    rintro D c pre W _ _ h _;exact h.elim
end
end Go.Proofs.YtcagfamdoaoimaaGreatDoor
