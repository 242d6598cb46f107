/- Iterators of ints that hold memory of their own: what a yield is asked, how far one has come. -/
import Derived.Test.YtmclohkaiemnaaaGreatDoorRfy
import Derived.Test.YtmclohkaiemnaaaGreatDoorMem
import Derived.Test.YtmclohkaiemnaaaGreatDoorBv8
import Derived.Test.YtmclohkaiemnaaaGreatDoorQb13
import Derived.Test.YtmclohkaiemnaaaGreatDoorEc9
import Derived.Test.YtmclohkaiemnaaaGreatDoorLa9
import Derived.Test.YtmclohkaiemnaaaGreatDoorLf9
import Derived.Test.YtmclohkaiemnaaaGreatDoorCls
import Derived.Test.YtmclohkaiemnaaaGreatDoorSt13
import Derived.Test.YtmclohkaiemnaaaGreatDoorSm9
set_option linter.unusedVariables false
set_option linter.unusedSimpArgs false
set_option maxRecDepth 100000
set_option maxHeartbeats 8000000
namespace Go.Proofs.YtmclohkaiemnaaaGreatDoor
open Go.RowKit
section
open Go.RowKit
theorem Rt.same {W W':World} {e:TypeId} {sz n:Nat} {v:Value} {xs:List Value} (h:Rt W e sz v n xs) (hk:∀g o m c,v=.slice (some ⟨g,o,none⟩) m c→W'.heap[g]? = W.heap[g]?):Rt W' e sz v n xs:=by
  obtain⟨h1,A,c,rfl,h3,h4,h5,h6⟩:=h;refine⟨h1,A,c,rfl,h3,h4,h5,fun hn=>?_⟩;obtain⟨g,o,cur,fr,rfl,hg,hc⟩:=h6 hn;have hg':=(hk g o n c rfl).trans hg;refine⟨g,o,cur,fr,rfl,hg',fun j u hj=>?_⟩;rw[cell_of_row W' g _ cur e fr hg',←cell_of_row W g _ cur e fr hg];exact hc j u hj
abbrev J6 (x:Nat):Array Value:=#[.int .i64 (x:Int)]
def YC (l':Nat) (N:List Nat) (n₀:Nat) (Xc:Nat→Prop) (J Jx:(Nat→Prop)→List Nat→World→Prop):Prop:=
  ∀X pre x W1,J X pre W1→pre++[x]<+:N→∀m,YieldAt Fence.wide m Tryz.prog l' (J6 x) W1 fun e W'=>
   (e=.returned (.bool true)∧J X (pre++[x]) W'∧fi n₀ Xc W1 W'∧∀k,X k→W'.heap[k]? = W1.heap[k]?)∨(e=.returned (.bool false)∧Jx X (pre++[x]) W'∧fi n₀ Xc W1 W'∧∀k,X k→W'.heap[k]? = W1.heap[k]?)
structure uw {α:Type} (J:(Nat→Prop)→List α→World→Prop) (W wr:World) (n₀:Nat) (Xc X X':Nat→Prop) (pr:List α):Prop where
  j:J X' pr wr
  xx:∀k,X k→X' k
  sm:∀k,X k→wr.heap[k]? = W.heap[k]?
  kx:fi n₀ Xc W wr
  xn:∀k,X' k→n₀≤k∧k<wr.heap.size
  wn:n₀≤W.heap.size
section
variable {α:Type} {J:(Nat→Prop)→List α→World→Prop} {W W1 wr:World} {n₀:Nat} {Xc X X1 X':Nat→Prop} {pr Ou:List α}
theorem uw.start (hj:J X pr W) (xn:∀k,X k→n₀≤k∧k<W.heap.size) (wn:n₀≤W.heap.size):uw J W W n₀ Xc X X pr:=
  ⟨hj,fun _ h=>h,fun _ _=>rfl,fi.refl _ _ _,xn,wn⟩
theorem uw.here (h:uw J W wr n₀ Xc X X' pr):uw J wr wr n₀ Xc X' X' pr:=uw.start h.j h.xn (aA h.wn h.kx.size)
theorem uw.then (h:uw J W W1 n₀ Xc X X1 Ou) (h':uw J W1 wr n₀ Xc X1 X' pr):uw J W wr n₀ Xc X X' pr:=
  ⟨h'.j,fun k hk=>h'.xx k (h.xx k hk),fun k hk=>(h'.sm k (h.xx k hk)).trans (h.sm k hk),h.kx.trans h'.kx,h'.xn,h.wn⟩
theorem uw.below (hF:l8 J) (h:uw J W wr n₀ Xc X X' pr) {w':World} (hb:Below wr.heap.size wr w'):uw J W w' n₀ Xc X (jH X' wr w') pr:=by
  have hw:=aA h.wn h.kx.size;exact⟨hF _ _ _ _ h.j (XG.of_below hb),fun k hk=>.inl (h.xx k hk),fun k hk=>(hb.block k (h.xn k (h.xx k hk)).2).trans (h.sm k hk),h.kx.trans (fi.of_below hb hw),fun k hk=>by
    rcases hk with hk|hk
    ·have:=h.xn k hk;have:=hb.size;omega
    ·omega,h.wn⟩
theorem uw.next (h:uw J W wr n₀ Xc X X' pr) {w':World} {pr':List α} (hj:J X' pr' w') (hk:fi n₀ Xc wr w') (hs:∀k,X' k→w'.heap[k]? = wr.heap[k]?):uw J W w' n₀ Xc X X' pr':=
  ⟨hj,h.xx,fun k hk'=>(hs k (h.xx k hk')).trans (h.sm k hk'),h.kx.trans hk,fun k hk'=>⟨(h.xn k hk').1,bQ (h.xn k hk').2 hk.size⟩,h.wn⟩
theorem uw.bk (h:uw J W wr n₀ Xc X X' pr) {g:Nat} {t:TypeId} {cs:Array Value} (hb:Bk W g t cs) (hx:X g):Bk wr g t cs:=(h.sm g hx).trans hb
theorem uw.own (h:uw J W wr n₀ Xc X X' pr) {B e sz n:Nat} {v:Value} {xs:List Value} (ho:W.ownsRow B e sz v n xs) (hx:∀k,v.ownBlock=some k→X k):wr.ownsRow B e sz v n xs:=by
  refine⟨ho.1,?_⟩;rcases ho.2 with h2|⟨g,cap,cur,he,hg,hh,r⟩
  ·exact .inl h2
  ·exact .inr ⟨g,cap,cur,he,hg,(h.sm g (hx g (by rw[he];rfl))).trans hh,r⟩
end
end
section
open Go.RowKit
attribute [local go_sem] Oper.semAt_some
def zu (l:List Nat):List Value:=l.map fun (i:Nat)=>Value.int .i64 (i:Int)
theorem tK (l:List Nat) (x:Nat):zu (l++[x])=zu l++zu [x]:=by simp[zu]
theorem L0 (l:List Nat):∀u∈zu l,u.oneCell'=true:=by
  intro u hu;obtain⟨x,_,rfl⟩:=bZ.1 hu;rfl
theorem Tryz.infoInt29:(Tryz.prog.info? 3).map (fun i=>(i.zero,i.size,i.bytes))=some (some (.int .i64 0),1,8):=by kernel_rfl
def te (L:List Nd) (x:Nd):Bool:=match L[x.up.toNat]? with|some u=>u.kd==2&&u.up==0|none=>false
def ju (L:List Nd) (i:Nat):Bool:=match L[i]? with|some x=>x.kd==3&&decide (1≤x.up)&&decide (x.up<(L.length:Int))&&te L x|none=>false
def jt (L:List Nd) (k:Nat):List Nat:=(List.range k).filter (ju L)
theorem rI (p:Nat→Bool) (k:Nat):(List.range (k+1)).filter p=(List.range k).filter p++(if p k=true then [k] else []):=by
  rw[List.range_succ,List.filter_append];congr 1;by_cases h:p k=true
  ·rw[aB h];simp[h]
  ·rw[aC h];simp[h]
theorem Gj (p:Nat→Bool) {k n:Nat} (h:k≤n):(List.range k).filter p<+:(List.range n).filter p:=by
  induction h with
  | refl=>exact List.prefix_refl _
  | step _ ih=>exact ih.trans ⟨_,(rI p _).symm⟩
theorem yQ (p:Nat→Bool) (k:Nat):((List.range k).filter p).length≤k:=by
  have:=List.length_filter_le p (List.range k)
  rwa [List.length_range] at this
theorem od {L:List Nd} {i:Nat} {x:Nd} (h:L[i]? = some x):ju L i=(x.kd==3&&decide (1≤x.up)&&decide (x.up<(L.length:Int))&&te L x):=by unfold ju;rw[h]
theorem Im (n l' bx c n₀:Nat) (Xc:Nat→Prop) (hXb:¬Xc bx) (L:List Nd) (A:Option Addr) (hXa:∀g o,A=some ⟨g,o,none⟩→¬Xc g) (J Jx:(Nat→Prop)→List Nat→World→Prop) (hF:l8 J) (hY:YC l' (jt L L.length) n₀ Xc J Jx) (hL:L.length≤90000) (W:World) (hBn:Bk W bx 25 #[.slice A L.length c]) (hB1:bx<n₀) (hR:Rd W n₀ 4 (.slice A L.length c) L.length (fm L)) (wn:n₀≤W.heap.size) (h0:J (fun _=>False) [] W) :
    CallsIn Fence.wide n Tryz.prog 37 #[.func (.yield l') #[] #[],.pointer (some ⟨bx,0,none⟩)] W fun e W'=>(∃v,e=.returned v)∧((∃xs X,xs=jt L L.length∧J X xs W')∨(∃pre X,True∧Jx X pre W')):=by
  have hd0:=uw.start (Xc:=Xc) h0 (fun k hk=>hk.elim) wn;have y0:W.cell? ⟨bx,0,none⟩=some (.slice A L.length c):=by rw[hBn.cell];rfl
  have HK:=ac (ae hY (ae hBn (ae hR hd0)));have HX0:=ac (ae hXb hXa);clear hY hBn hR hd0 h0 hXb hXa;refine callsIn_of_wp Tryz.func37 rfl trivial ?_ rfl;simp only[Tryz.ntmps37,cJ,aL,cg,Nat.reduceAdd,Nat.reduceSub,cy,cz,cO,cH,cK,bH];gi_wp2_with fail;clear y0;gi_loopw [8] (fun i wr=>∃(k:Nat) (X:Nat→Prop),k≤L.length∧i=.int .i64 k∧uw J W wr n₀ Xc (fun _=>False) X (jt L k)) (fun i _=>L.length-(intOf i).toNat)
  case atStart=>exact⟨0,_,bq _,rfl,HK.out.2.2.2⟩
  case round=>
    obtain⟨k,X,hk,rfl,hd⟩:=hrel;have hkb:Bk wr bx 25 #[.slice A L.length c]:=(hd.kx.same bx hB1 HX0.out.1).trans HK.out.2.1;have hbl:=hkb.lt;by_cases hlt:k<L.length
    ·have u1:(k:Int)<(L.length:Int):=by omega
     have u2:(0:Int)≤(k:Int):=by omega
     obtain⟨x,hx⟩:∃x,L[k]? = some x:=⟨_,ax hlt⟩;obtain⟨g,o,rfl,hgl,hc⟩:=fW gu HK.out.2.2.1 hx rfl;have hgw:g<wr.heap.size:=by have:=hd.kx.size;omega
     obtain⟨K,hK⟩:∃K:Int,K=(x.kd:Int):=⟨_,rfl⟩;obtain⟨up,hup⟩:∃up:Int,up=x.up:=⟨_,rfl⟩;have z0:wr.cell? ⟨g,o+k*4,none⟩=some (.int .i64 K):=by rw[hK];exact(hd.kx.cell hgl (HX0.out.2 _ _ rfl) _).trans (hc 0 _ rfl)
     have z1:wr.cell? ⟨g,o+k*4+1,none⟩=some (.int .i64 (x.fr:Int)):=(hd.kx.cell hgl (HX0.out.2 _ _ rfl) _).trans (hc 1 _ rfl);have z2:wr.cell? ⟨g,o+k*4+2,none⟩=some (.int .i64 (x.tt:Int)):=(hd.kx.cell hgl (HX0.out.2 _ _ rfl) _).trans (hc 2 _ rfl);have z3:wr.cell? ⟨g,o+k*4+3,none⟩=some (.int .i64 up):=by rw[hup];exact(hd.kx.cell hgl (HX0.out.2 _ _ rfl) _).trans (hc 3 _ rfl)
     have z4:wr.cell? ⟨bx,0,none⟩=some (.slice (some ⟨g,o,none⟩) L.length c):=by rw[hkb.cell];rfl
     have hsuc:=rI (ju L) k;have htb:=od hx;rw[←hup] at htb;have hpre:=Gj (ju L) (k:=k+1) (n:=L.length) (by omega);obtain⟨wo,hwo⟩:∃wo:World,wo=wr.alloc (.cells #[.int .i64 K,.int .i64 (x.fr:Int),.int .i64 (x.tt:Int),.int .i64 up] 52):=⟨_,rfl⟩;have hbo:Below wr.heap.size wr wo:=by rw[hwo];exact(ay _ _).alloc (au _) _
     have hdo:=hd.below hF hbo;by_cases h3:x.kd=3∧1≤up∧up<(L.length:Int)
     ·obtain⟨h3,h1,hul⟩:=h3;obtain rfl:K=3:=by omega
      have t2:decide (up<1)=false:=by simp;omega
      have t3:decide ((L.length:Int)≤up)=false:=by simp;omega
      obtain⟨u,hu⟩:∃u:Nat,up=(u:Int):=⟨up.toNat,by omega⟩;obtain⟨y,hy⟩:∃y,L[u]? = some y:=⟨_,ax (by omega)⟩;obtain⟨_,_,he,_,hc2⟩:=fW gu HK.out.2.2.1 hy rfl
      cases he;have htx:te L x=(y.kd==2&&y.up==0):=by unfold te;rw[←hup,hu,bJ,hy]
      rw[htx,show (x.kd==3)=true by simp[h3],show decide (1≤up)=true by simpa using h1,show decide (up<(L.length:Int))=true by simpa using hul] at htb;simp only[cN] at htb;obtain⟨K2,hK2⟩:∃K2:Int,K2=(y.kd:Int):=⟨_,rfl⟩;obtain⟨U2,hU2⟩:∃U2:Int,U2=y.up:=⟨_,rfl⟩;have x0:wr.cell? ⟨g,o+u*4,none⟩=some (.int .i64 K2):=by rw[hK2];exact(hd.kx.cell hgl (HX0.out.2 _ _ rfl) _).trans (hc2 0 _ rfl)
      have x1:wr.cell? ⟨g,o+u*4+1,none⟩=some (.int .i64 (y.fr:Int)):=(hd.kx.cell hgl (HX0.out.2 _ _ rfl) _).trans (hc2 1 _ rfl);have x2:wr.cell? ⟨g,o+u*4+2,none⟩=some (.int .i64 (y.tt:Int)):=(hd.kx.cell hgl (HX0.out.2 _ _ rfl) _).trans (hc2 2 _ rfl);have x3:wr.cell? ⟨g,o+u*4+3,none⟩=some (.int .i64 U2):=by rw[hU2];exact(hd.kx.cell hgl (HX0.out.2 _ _ rfl) _).trans (hc2 3 _ rfl)
      have u3:(u:Int)<(L.length:Int):=by omega
      have u4:(0:Int)≤(u:Int):=by omega
      subst hu;obtain⟨w2,hw2⟩:∃w2:World,w2=wo.alloc (.cells #[.int .i64 K2,.int .i64 (y.fr:Int),.int .i64 (y.tt:Int),.int .i64 U2] 52):=⟨_,rfl⟩;have hb2:Below wo.heap.size wo w2:=by rw[hw2];exact(ay _ _).alloc (au _) _
      have hd2:=hdo.below hF hb2;rw[hwo] at hw2;by_cases hyes:y.kd=2∧y.up=0
      ·obtain rfl:K2=2:=by omega
       obtain rfl:U2=0:=by omega
       rw[show (y.kd==2&&y.up==0)=true by simp[hyes.1,hyes.2]] at htb;rw[aB htb] at hsuc;rw[hsuc] at hpre;obtain⟨fn,tmps,assign,body,hyy,hRR⟩:=HK.out.1 _ _ k w2 hd2.j hpre (n-1);have hR2:=ac hRR;simp only[J6] at hyy;rw[hw2] at hyy;have hy2:=ac hyy;have HX:=ac (ae hsuc hd2);clear hRR hyy hpre hsuc hd2 hdo hd hb2 hbo hc hc2 htb htx hyes hK2 hU2 hy hx hkb hK hup h3 hwo;gi_wp2_with fail;rw[hy2.out];gi_wp2_with fail;refine⟨fun h=>by simp[Fence.wide] at h,?_⟩;rw[←hw2];refine hR2.out.mono ?_;rintro e W3 (⟨rfl,hJ3,hk3,hx3⟩|⟨rfl,hJx3,hk3,hx3⟩)
       ·have H3:=ac (HX.out.2.next hJ3 hk3 hx3);clear hJ3 hk3 hx3;gi_wp2_with fail;exact⟨⟨k+1,_,by omega,by go_num,by unfold jt;rw[HX.out.1];exact H3.out⟩,by simp[intOf];omega⟩
       ·have H3:=ac hJx3;clear hJx3 hk3 hx3;gi_wp2_with fail;refine bn ?_;exact⟨⟨_,rfl⟩,.inr ⟨_,_,trivial,H3.out⟩⟩
      ·have hno:(y.kd==2&&y.up==0)=false:=by
         rw[Bool.and_eq_false_iff];by_cases h:y.kd=2
         ·exact .inr (aN (fun e=>hyes ⟨h,e⟩))
         ·exact .inl (aN h)
       rw[hno] at htb;rw[aC (by rw[htb];decide),bB] at hsuc;have HX:=ac (ae hsuc hd2);have hw3:(K2==2)=false∨(K2=2∧(U2==0)=false):=by
         by_cases h:y.kd=2
         ·exact .inr ⟨by omega,aN (fun e=>hyes ⟨h,by omega⟩)⟩
         ·exact .inl (aN (by omega))
       clear hpre hsuc hd2 hdo hd hb2 hbo hc hc2 htb htx hyes hno hK2 hU2 hy hx hkb hK hup h3 hwo;rcases hw3 with h|⟨rfl,h⟩
       all_goals (
         gi_wp2_with (first
           | ((with_reducible refine⟨fun f h=>?_,?_⟩);cases h))
         rw[←hw2];exact⟨⟨k+1,_,by omega,by go_num,by unfold jt;rw[HX.out.1];exact HX.out.2⟩,by simp[intOf];omega⟩)
     ·have hno:ju L k=false:=by
        rw[htb];by_cases h:x.kd=3
        ·by_cases h':1≤up
         ·rw[show decide (up<(L.length:Int))=false from aE (fun e=>h3 ⟨h,h',e⟩)];simp
         ·rw[show decide (1≤up)=false from aE h'];simp
        ·rw[show (x.kd==3)=false from aN h];rfl
      rw[aC (by rw[hno];decide),bB] at hsuc;have HX:=ac (ae hsuc hdo);have hw3:(K != 3)=true∨(K=3∧decide (up<1)=true)∨(K=3∧decide (up<1)=false∧decide ((L.length:Int)≤up)=true):=by
        by_cases h:x.kd=3
        ·obtain rfl:K=3:=by omega
         by_cases h':1≤up
         ·exact .inr (.inr ⟨rfl,by simp;omega,by simp;exact Int.not_lt.1 (fun e=>h3 ⟨h,h',e⟩)⟩)
         ·exact .inr (.inl ⟨rfl,by simp;omega⟩)
        ·exact .inl (by simp;omega)
      clear hpre hsuc hdo hd hbo hc htb hno hK hup hx hkb h3;rcases hw3 with h|⟨rfl,h⟩|⟨rfl,h,h'⟩
      all_goals (
        gi_wp2_with fail;rw[←hwo];exact⟨⟨k+1,_,by omega,by go_num,by unfold jt;rw[HX.out.1];exact HX.out.2⟩,by simp[intOf];omega⟩)
    ·obtain rfl:k=L.length:=by omega
     have HE:=ac hd;clear hd hkb;gi_wp2_with fail;go_end0;first|exact⟨⟨_,rfl⟩,.inl ⟨X,HE.out.j⟩⟩|exact⟨⟨_,rfl⟩,.inl ⟨_,X,rfl,HE.out.j⟩⟩
theorem Lq (A:Option Addr) (n c:Nat) (w:World) :
    Calls Tryz.prog 16 #[.slice A n c] w fun e w'=>e=.returned (.func (.func 37) #[] #[.pointer (some ⟨w.heap.size,0,none⟩)])∧w'=w.alloc (.cells #[.slice A n c] 25):=by
  go_enter Tryz.func16,Tryz.ntmps16;go_wp2;go_ret;exact⟨rfl,rfl⟩
def Lg (gf:Nat) (lb:Array Value) (N:List Nat) (Xc:Nat→Prop) (w:World):Prop:=
  (∀args w,(callFunc gf args).run Tryz.prog w=.ok (.enter gf args) w)∧∀W0,Below w.heap.size w W0→Kw Tryz.prog gf lb J6 (fi w.heap.size Xc) (fun xs=>xs=N) (fun _=>True) N W0
theorem DO (L:List Nd) (hL:L.length≤90000) (A:Option Addr) (c:Nat) (w:World) (Xc:Nat→Prop) (hXa:∀g o,A=some ⟨g,o,none⟩→¬Xc g) (hXb:¬Xc w.heap.size) (hR:Rd w w.heap.size 4 (.slice A L.length c) L.length (fm L)) :
    Calls Tryz.prog 16 #[.slice A L.length c] w fun e w'=>∃gf lb,e=.returned (.func (.func gf) #[] lb)∧Lg gf lb (jt L L.length) Xc w'∧Below w.heap.size w w':=by
  refine(Lq _ _ _ w).mono ?_;rintro e w' ⟨rfl,hw⟩;have hs:w'.heap.size=w.heap.size+1:=by rw[hw];simp
  have k1:Bk w' w.heap.size 25 #[.slice A L.length c]:=by rw[hw];exact Bk.new w _ _
  have hbw:Below w.heap.size w w':=by rw[hw];exact(ay _ w).alloc (au _) _
  refine⟨_,_,rfl,⟨enters_of Tryz.func37 (by kernel_rfl) rfl,fun W0 hW0=>?_⟩,hbw⟩;intro n l' J Jx W hW hF _ hY hJ;have hb:=hW0.trans (hW.mono hW0.size);refine Im n l' _ c w'.heap.size Xc hXb L A hXa J Jx hF hY hL W (k1.below hb k1.lt) (by omega) ?_ hb.size hJ
  exact((hR.keep hbw (au _)).keep (hb.mono (by omega)) (au _)).mono (by omega)
end
theorem Ep (L:List Nd) (i c:Nat) (A:Option Addr) (x:Nd) (w:World) (hL:L.length≤100000) (hx:L[i]? = some x) (hup:x.up<(L.length:Int)) (hr:Rd w w.heap.size 4 (.slice A L.length c) L.length (fm L)) :
    Ob 28 #[.slice A L.length c,.int .i64 (i:Int)] w (.bool (ju L i)):=by
  have hil:=(az.1 hx).1;have u1:(0:Int)≤(i:Int):=by omega
  have u2:(i:Int)<(L.length:Int):=by omega
  obtain⟨T,hT⟩:∃T,T=ju L i:=⟨_,rfl⟩;rw[←hT];have hT2:T=(x.kd==3&&decide (1≤x.up)&&decide (x.up<(L.length:Int))&&te L x):=by rw[hT];unfold ju;rw[hx]
  obtain⟨g,o,rfl,_,hc⟩:=fW gu hr hx rfl;have y0:w.cell? ⟨g,o+i*4,none⟩=some (.int .i64 (x.kd:Int)):=hc 0 _ rfl;have y3:w.cell? ⟨g,o+i*4+3,none⟩=some (.int .i64 x.up):=hc 3 _ rfl;have HT:=ac hT2;clear hT hT2;by_cases h3:x.kd=3
  ·have t3:((x.kd:Int)!=3)=false:=by simp;omega
   by_cases h1:x.up<1
   ·have t1:decide (x.up<1)=true:=by simpa using h1
    have e:T=false:=by
      rw[HT.out,show decide (1≤x.up)=false by simp;omega,Bool.and_false];rfl
    subst e;clear hc hx hr;go_enter Tryz.func28,Tryz.ntmps28;go_wp2_with fail;try go_quiet (fail)
    try go_wp2_with fail
    go_ret;first|exact⟨rfl,_,rfl⟩|exact⟨rfl,0,rfl⟩
   ·have t1:decide (x.up<1)=false:=by simpa using h1
    obtain⟨u,hu⟩:∃u:Nat,x.up=(u:Int):=⟨x.up.toNat,by omega⟩;obtain⟨y,hy⟩:∃y,L[u]? = some y:=⟨_,ax (by omega)⟩;have v1:(0:Int)≤(u:Int):=by omega
    have v2:(u:Int)<(L.length:Int):=by omega
    obtain⟨g',o',he,_,hc2⟩:=fW gu hr hy rfl;obtain⟨rfl,rfl⟩:g=g'∧o=o':=by simpa using he
    have z0:w.cell? ⟨g,o+u*4,none⟩=some (.int .i64 (y.kd:Int)):=hc2 0 _ rfl;have z3:w.cell? ⟨g,o+u*4+3,none⟩=some (.int .i64 y.up):=hc2 3 _ rfl;have e:T=(y.kd==2&&y.up==0):=by
      rw[HT.out,h3,show decide (1≤x.up)=true by simp;omega,show decide (x.up<(L.length:Int))=true by simpa using hup];unfold te;rw[hu,bJ,hy];rfl
    have HE:=ac e;rw[hu] at y3 t1;clear hc hc2 hx hr hy he hup h1 hu e;have k2:((y.kd:Int)==2)=(y.kd==2):=by
      cases h:(y.kd==2)
      ·have:=aK.1 h;rw[aK];omega
      ·have:=eq_of_beq h;rw[bA];omega
    generalize (y.kd==2)=b2 at k2 HE
    cases b2
    case' true=>cases k0:(y.up==0)
    all_goals (
      go_enter Tryz.func28,Tryz.ntmps28;go_wp2_with fail;try go_quiet (fail)
      try go_wp2_with fail
      try go_quiet (fail)
      try go_wp2_with fail
      go_ret;rw[HE.out];first|exact⟨rfl,_,rfl⟩|exact⟨by rw[k0];rfl,_,rfl⟩|exact⟨rfl,0,rfl⟩|exact⟨by rw[k0];rfl,0,rfl⟩)
  ·have t3:((x.kd:Int)!=3)=true:=by simp;omega
   have e:T=false:=by
     rw[HT.out,show (x.kd==3)=false from aK.2 h3];rfl
   subst e;clear hc hx hr;go_enter Tryz.func28,Tryz.ntmps28;go_wp2_with fail;try go_quiet (fail)
   try go_wp2_with fail
   go_ret;first|exact⟨rfl,_,rfl⟩|exact⟨rfl,0,rfl⟩
end Go.Proofs.YtmclohkaiemnaaaGreatDoor
