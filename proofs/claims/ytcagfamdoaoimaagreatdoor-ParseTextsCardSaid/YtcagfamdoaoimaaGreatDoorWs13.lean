/- parse.faults, parse.Clean and parse.Faults: the nodes that are Errors or Missings. -/
import Derived.Test.YtcagfamdoaoimaaGreatDoorMb13
import Derived.Test.YtcagfamdoaoimaaGreatDoorRfy
import Derived.Test.YtcagfamdoaoimaaGreatDoorQc13
import Derived.Test.YtcagfamdoaoimaaGreatDoorPl13
import Derived.RangeFuncNested
import Derived.Shelf.Abstract
import Derived.OwnWalkIn
import Derived.BigQuiet
set_option linter.unusedVariables false
set_option linter.unusedSimpArgs false
set_option maxRecDepth 100000
set_option maxHeartbeats 8000000
namespace Go.Proofs.YtcagfamdoaoimaaGreatDoor
open Go.RowKit
section
open Go.RowKit
attribute [local go_sem] Oper.semAt_some
structure Nz where
  kd:Int
  fr:Int
  tt:Int
  up:Int
def NK (x:Nz):List Value:=[.int .i64 x.kd,.int .i64 x.fr,.int .i64 x.tt,.int .i64 x.up]
theorem Jl (x:Nz):(NK x).length=4:=rfl
def tT (L:List Nz):List Value:=L.flatMap NK
def nz (x:Nd):Nz:=⟨x.kd,x.fr,x.tt,x.up⟩
theorem Jp (L:List Nd):gz L=tT (L.map nz):=by
  unfold gz tT;rw[List.flatMap_map];rfl
def wT (x:Nz):Bool:=x.kd==17||x.kd==18
def DC (L:List Nz) (i:Nat):Bool:=match L[i]? with|some x=>wT x|none=>false
def jY (L:List Nz) (k:Nat):List Nat:=(List.range k).filter (DC L)
theorem Dz (L:List Nz) (k:Nat):jY L (k+1)=jY L k++(if DC L k=true then [k] else []):=by
  unfold jY;rw[List.range_succ,List.filter_append];congr 1;by_cases h:DC L k=true
  ·rw[aE h];simp[h]
  ·rw[aB h];simp[h]
theorem Gy (L:List Nz) (k:Nat):(jY L k).length≤k:=by
  have:=List.length_filter_le (DC L) (List.range k)
  rw[List.length_range] at this;exact this
abbrev JP (i:Nat):Array Value:=#[.int .i64 (i:Int)]
theorem M9 {W W':World} (h:Below W.heap.size W W'):W.grownBy W' none:=⟨h.1,h.2,h.3,h.size,fun k hk _=>h.block k hk⟩
theorem Bo (n l' bx c n₀:Nat) (L:List Nz) (A:Option Addr) (J Jx:List Nat→World→Prop) (hl:L.length≤100000)
    (hY:∀pre x W,J pre W→pre.length<L.length→YieldAt Fence.wide (n-1) Tryz.prog l' (JP x) W fun e W'=>
      (e=.returned (.bool true)∧J (pre++[x]) W'∧eH n₀ (fun _=>False) W W')∨(e=.returned (.bool false)∧Jx (pre++[x]) W'))
    (W:World) (hJ:AbidesFrom W.heap.size J) (hbx:Bk W bx 24 #[.slice A L.length c]) (hrd:Rd W n₀ 4 (.slice A L.length c) L.length (tT L)) (hn:n₀≤W.heap.size) (h0:J [] W) :
    CallsIn Fence.wide n Tryz.prog 97 #[.func (.yield l') #[] #[],.pointer (some ⟨bx,0,none⟩)] W fun e W'=>(∃v,e=.returned v) ∧
      ((∃ys,ys=jY L L.length∧J ys W')∨(∃pre,jY L L.length≠[]∧Jx pre W')):=by
  have y0:W.cell? ⟨bx,0,none⟩=some (.slice A L.length c):=by rw[hbx.cell];rfl
  have HK:=aa (ac hJ (ac h0 (ac hY hrd)));clear hJ h0 hY hbx hrd;refine dD Tryz.func97 rfl trivial ?_ rfl;simp only[Tryz.ntmps97,bT,aO,bI,Nat.reduceAdd,Nat.reduceSub,bB,bC,bU,bG,bS,bv];gi_wp2_with fail;gi_loopw [7] (fun i wr=>∃k:Nat,k≤L.length∧i=.int .i64 k∧J (jY L k) wr∧Below W.heap.size W W∧eH n₀ (fun _=>False) W wr∧W.heap.size≤wr.heap.size) (fun i _=>L.length-(intOf i).toNat)
  case atStart=>exact⟨0,bK _,rfl,HK.out.2.1,aD _ _,eH.refl _ _ _,an _⟩
  case round=>
    obtain⟨k,hk,rfl,hJp,_,hkc,hsz⟩:=hrel;by_cases hlt:k<L.length
    ·have u1:(k:Int)<(L.length:Int):=by omega
     have u2:(0:Int)≤(k:Int):=by omega
     obtain⟨x,hx⟩:∃x,L[k]? = some x:=⟨_,ax hlt⟩;obtain⟨g,o,rfl,hgl,hc⟩:=iY Jl HK.out.2.2.2 hx rfl;have z0:wr.cell? ⟨g,o+k*4,none⟩=some (.int .i64 x.kd):=(hkc.cell hgl (fun h=>h) _).trans (hc 0 _ rfl);have z1:wr.cell? ⟨g,o+k*4+1,none⟩=some (.int .i64 x.fr):=(hkc.cell hgl (fun h=>h) _).trans (hc 1 _ rfl);have z2:wr.cell? ⟨g,o+k*4+2,none⟩=some (.int .i64 x.tt):=(hkc.cell hgl (fun h=>h) _).trans (hc 2 _ rfl);have z3:wr.cell? ⟨g,o+k*4+3,none⟩=some (.int .i64 x.up):=(hkc.cell hgl (fun h=>h) _).trans (hc 3 _ rfl);have hfa:DC L k=wT x:=by unfold DC;rw[hx]
     have hsuc:=Dz L k;rw[hfa] at hsuc;have hba:Below wr.heap.size wr (wr.alloc (.cells #[.int .i64 x.kd,.int .i64 x.fr,.int .i64 x.tt,.int .i64 x.up] 56)):=(aD _ wr).alloc (an _) _;have hJ1:=HK.out.1 (jY L k) wr _ none hJp (M9 hba) (by simp);have hkc1:eH n₀ (fun _=>False) W (wr.alloc (.cells #[.int .i64 x.kd,.int .i64 x.fr,.int .i64 x.tt,.int .i64 x.up] 56)):=hkc.trans (eH.of_below hba (aA hn hsz));have hpl:(jY L k).length<L.length:=Nat.lt_of_le_of_lt (Gy L k) hlt;have hne:wT x=true→jY L L.length≠[]:=fun h e=>by
       have h1:k∈jY L L.length:=List.mem_filter.2 ⟨cT.2 hlt,by rw[hfa];exact h⟩;rw[e] at h1
       cases h1
     have hs1:W.heap.size≤(wr.alloc (.cells #[.int .i64 x.kd,.int .i64 x.fr,.int .i64 x.tt,.int .i64 x.up] 56)).heap.size:=by simp;omega
     have key:(x.kd=17)∨(x.kd≠17∧x.kd=18)∨(x.kd≠17∧x.kd≠18):=by omega
     rcases key with h17|⟨h17,h18⟩|⟨h17,h18⟩
     case' inl=>
       have t1:(x.kd==17)=true:=by rw[h17];rfl
       have hb:wT x=true:=by unfold wT;rw[t1];rfl
     case' inr.inl=>
       have t1:(x.kd==17)=false:=aL h17;have t2:(x.kd==18)=true:=by rw[h18];rfl
       have hb:wT x=true:=by unfold wT;rw[t1,t2];rfl
     case' inr.inr=>
       have t1:(x.kd==17)=false:=aL h17;have t2:(x.kd==18)=false:=aL h18;have hb:wT x=false:=by unfold wT;rw[t1,t2];rfl
       rw[hb,aB (by decide),bM] at hsuc;have HR:=aa (ac hJ1 (ac hkc1 (ac hsuc hs1)));clear hJ1 hkc1 hsuc hne hfa hba hJp hkc hc hx hs1 hb h17 h18;gi_wp2_with (
         ((with_reducible refine⟨fun f h=>?_,?_⟩);cases h))
       exact⟨⟨k+1,by omega,by go_num,by rw[HR.out.2.2.1];exact HR.out.1,aD _ _,HR.out.2.1,HR.out.2.2.2⟩,by simp[intOf];omega⟩
     all_goals (
       rw[hb,aE rfl] at hsuc;have hne:=hne hb;obtain⟨fn,tmps,assign,body,hy,hR⟩:=HK.out.2.2.1 (jY L k) k _ hJ1 hpl;have hR2:=aa hR;clear hR;simp only[JP] at hy;have hy2:=aa hy;have HR:=aa (ac hkc1 (ac hsuc (ac hs1 hne)));clear hy hJ1 hkc1 hsuc hne hfa hba hJp hkc hc hx hs1 hb h17;try clear h18
       gi_wp2_with fail;rw[hy2.out];gi_wp2;refine⟨fun h=>by simp[Fence.wide] at h,?_⟩;refine hR2.out.mono ?_;rintro e W3 (⟨rfl,hJ3,hk3⟩|⟨rfl,hJx3⟩)
       ·have H3:=aa (ac hJ3 hk3);clear hJ3 hk3;gi_wp2;exact⟨⟨k+1,by omega,by go_num,by rw[HR.out.2.1];exact H3.out.1,aD _ _,HR.out.1.trans H3.out.2,aA HR.out.2.2.1 H3.out.2.size⟩,by simp[intOf];omega⟩
       ·have H3:=aa hJx3;clear hJx3;gi_wp2;refine az (aI rfl _ _ _) rfl ?_;exact⟨⟨_,rfl⟩,.inr ⟨_,HR.out.2.2.2,H3.out⟩⟩)
    ·obtain rfl:k=L.length:=by omega
     have HR:=aa hJp;clear hJp hkc;gi_wp2;go_end0;exact⟨⟨_,rfl⟩,.inl ⟨_,rfl,HR.out⟩⟩
theorem zi (v:Value) (w:World) (hv:∃A n c,v=.slice A n c) :
    Calls Tryz.prog 55 #[v] w fun e w'=>e=.returned (.func (.func 97) #[] #[.pointer (some ⟨w.heap.size,0,none⟩)])∧w'=w.alloc (.cells #[v] 24):=by
  obtain⟨A,n,c,rfl⟩:=hv;go_enter Tryz.func55,Tryz.ntmps55;go_wp2;go_ret;exact⟨rfl,rfl⟩
def zL (l:List Nat):List Value:=l.map fun (i:Nat)=>Value.int .i64 (i:Int)
theorem Gn (l:List Nat) (x:Nat):zL (l++[x])=zL l++zL [x]:=by simp[zL]
theorem Lp (l:List Nat):∀u∈zL l,u.oneCell'=true:=by
  intro u hu;obtain⟨x,_,rfl⟩:=cH.1 hu;rfl
theorem Hg (W:World) (x:Nat):∀j u,(zL [x])[j]? = some u→(W.alloc (.cells (zL [x]).toArray 3)).cell? ((⟨W.heap.size,0,none⟩:Addr).add j)=some u:=by
  intro j u hu;rw[Addr.add_lit,cF,Bk.cell (Bk.new W _ _)];simpa using hu
theorem Tryz.infoInt13:(Tryz.prog.info? 3).map (fun i=>(i.zero,i.size,i.bytes))=some (some (.int .i64 0),1,8):=by kernel_rfl
theorem qU (n bx c n₀:Nat) (L:List Nz) (A:Option Addr) (w:World) (hl:L.length≤100000) (hbx:Bk w bx 24 #[.slice A L.length c]) (hrd:Rd w n₀ 4 (.slice A L.length c) L.length (tT L)) (hn:n₀≤w.heap.size) :
    SeqStopsK Fence.wide n Tryz.prog 97 #[.pointer (some ⟨bx,0,none⟩)] JP (eH n₀ (fun _=>False)) (fun ys=>ys=jY L L.length) (fun _=>jY L L.length≠[]) L.length w:=fun l' J Jx W hW hJ _ hY h0=>
  Bo n l' bx c n₀ L A J Jx hl hY W hJ (hbx.below hW hbx.lt) (hrd.keep (hW.mono hn) (an _)) (aA hn hW.size) h0
theorem DV (bx c:Nat) (L:List Nz) (A:Option Addr) (w:World) (hl:L.length≤100000) (hbx:Bk w bx 24 #[.slice A L.length c]) (hrd:Rd w w.heap.size 4 (.slice A L.length c) L.length (tT L)) :
    Calls Tryz.prog 74 #[.slice none 0 0,.func (.func 97) #[] #[.pointer (some ⟨bx,0,none⟩)]] w fun e w'=>∃v,e=.returned v∧w'.ownsRow w.heap.size 3 1 v (jY L L.length).length (zL (jY L L.length))∧Below w.heap.size w w':=by
  obtain⟨i0,hi,hz0,hz1,hz2⟩:=cz Tryz.infoInt13;refine(aS (n:=5)).1 ?_;refine callsIn_of_wp_marks Tryz.func74 rfl trivial ?_ rfl;simp only[Tryz.ntmps74,bT,aO,bI,Nat.reduceAdd,Nat.reduceSub,bB,bC,bU,bG,bS,bv];gi_wp2_with fail;obtain⟨W0,hW0⟩:∃W0,w.alloc (.cells #[.slice none 0 0] 35)=W0:=⟨_,rfl⟩;have bO:Boxed W0 w.heap.size 35 (.slice none 0 0):=by rw[←hW0];exact Boxed.new w _ _
  have hs0:W0.heap.size=w.heap.size+1:=by rw[←hW0];simp
  have hb0:Below w.heap.size w W0:=by rw[←hW0];exact(aD _ w).alloc (an _) _
  rw[hW0];clear hW0;have HW:=aa hb0
  refine wpIn_rangeFunc_ownH rfl (by omega) (gf:=97) (lb:=#[.pointer (some ⟨bx,0,none⟩)]) rfl trivial (enters_of Tryz.func97 (by kernel_rfl) rfl)
    (qU (5-1) bx c w.heap.size L A W0 hl (hbx.below hb0 hbx.lt) (hrd.keep hb0 (an _)) hb0.size) (fun h k=>h.trans k) (fun W l o o' hl h1 h2 h3=>lc W l o o' (by omega) h1 h2 h3) (aD _ _) (fun _=>rfl)
    (fun pre W=>(∃v,Boxed W w.heap.size 35 v∧W.ownsRow W0.heap.size 3 1 v pre.length (zL pre)∧True)∧Below w.heap.size w W∧W0.heap.size≤W.heap.size)
    (fun _ _ _=>False)
    (OwnFrom.and (Own.from (holdsRow_own W0.heap.size w.heap.size 35 3 1 (fun pre=>pre.length) (fun pre=>zL pre) (fun pre v=>True)) _) (OwnFrom.and (ownFrom_below (an _) (by omega)) (iQ _ _)))
    (fun _ _ _ _ _ hs _ _=>hs)
    ⟨⟨_,bO,bV _ _ _ _,trivial⟩,HW.out,an _⟩
    (fun x a' W=>a'={tmps:=#[.slice none 0 0,.func (.func 97) #[] #[.pointer (some ⟨bx,0,none⟩)],.pointer (some ⟨w.heap.size,0,none⟩),undef,.slice none 0 0,.int .i64 (x:Int),.func (.func 97) #[] #[.pointer (some ⟨bx,0,none⟩)],.int .i64 (x:Int),undef,undef,undef,undef,undef],defers:=[]})
    (fun x a' s W W' row hs hg hr=>hs) ?assign ?body ?done ?stop
  case assign=>
    intro l' pre x W K hI hK;gi_wp2;exact hK _ _ (KeepsFrom.refl _ _) (eH.refl _ _ _) hI rfl
  case body=>
    rintro l' pre x a' W hl1 hl2 ⟨⟨v,hv,hrow,_⟩,hB,hS⟩ rfl hlt;have hc:=hv.cell;have hf:=hv.frozen;have hpl0:pre.length≤100000:=by omega
    gi_wp2_with (
      (gi_at_builtin;refine wpListIn_append_own _ rfl (.tmp 8) (.tmp 10) 35 rfl W0.heap.size 3 i0 _ 1 8 Tryz.underlying35 hi hz0 hz1 hz2 rfl (by decide) v pre.length (zL pre) rfl (hrow.alloc _) ⟨W.heap.size,0,none⟩ 1 1 (zL [x]) rfl rfl (Hg W x) (Lp [x]) (by unfold maxLen;omega) (by omega) (by simp;omega) ?_;intro v3 w3 hown3 hg3 _;have hW1:Below W.heap.size W (W.alloc (.cells (zL [x]).toArray 3)):=aZ (aD _ _) (an _) _;have hv3:=jJ hv (by decide) hrow hW1 hg3;have hc3:=hv3.cell;have hf3:=hv3.frozen;obtain⟨A3,n3,c3,rfl⟩:=dR hown3;have hkc:eH w.heap.size (fun _=>False) W (w3.setCell ⟨w.heap.size,0,none⟩ (.slice A3 n3 c3)):=((eH.of_below hW1 (by have:=hB.size;omega)).trans (eH.of_grown hg3 (by have:=hB.size;simp;omega) (fun k hk=>.inl (by have:=(hrow.lt k hk).1;omega)))).set (.inl (an _)) _ _;have H3:=aa (ac hkc (jd (M:=W0.heap.size) hv (by decide) hrow hS (by omega) hW1 hg3 hown3));clear hown3 hg3 hv3 hW1 hkc))
    obtain⟨q0,q1,q2,q3,q4,q5,q6⟩:=H3.out;exact⟨q1,q0,⟨_,q3,by rw[Gn,aH];exact q4,trivial⟩,hB.trans (q5 _ (an _)),q6⟩
  case done=>
    rintro D ys W hD rfl ⟨⟨v,hv,hrow,_⟩,hB,hS⟩ hK;have hc:=hv.cell;have hbk:=belowK_b (w:=w) (an _) W D (.deferred (some [])) (.deferred none) (by omega) hK rfl rfl;have hrow3:=hrow.kept (grownBy_putObj' W D (.deferred none)) (.inr (fun e=>by have:=f9 hrow e hK;cases this));have HD:=aa (ac hB (ac hbk hrow3));have HK2:=aa hK;clear hB hbk hrow hrow3 hv hK;gi_wp2;refine⟨by simp,.inl ⟨_,_,rfl,run_takeDeferred HK2.out,?_⟩⟩;exact⟨v,by simp[results,Tryz.results74,go_sem],⟨_,rfl,fF HD.out.2.2 (by omega),HD.out.1.trans HD.out.2.1⟩⟩
  case stop=>
    intro D c pre W _ _ h _;exact h.elim
theorem Br (bx c:Nat) (L:List Nz) (A:Option Addr) (w:World) (hl:L.length≤100000) (hbx:Bk w bx 24 #[.slice A L.length c]) (hrd:Rd w w.heap.size 4 (.slice A L.length c) L.length (tT L)) :
    Calls Tryz.prog 45 #[.func (.func 97) #[] #[.pointer (some ⟨bx,0,none⟩)]] w fun e w'=>∃v,e=.returned v∧w'.ownsRow w.heap.size 3 1 v (jY L L.length).length (zL (jY L L.length))∧Below w.heap.size w w':=by
  have H:=aa (DV bx c L A w hl hbx hrd);clear hbx hrd;go_enter Tryz.func45,Tryz.ntmps45;go_wp2_with (
    (go_at_call 74;refine H.out.mono ?_;rintro e w2 ⟨v,rfl,h1,h2⟩;have H2:=aa (ac h1 h2);clear h1 h2))
  go_ret;exact⟨_,rfl,H2.out⟩
theorem GI (c:Nat) (L:List Nz) (A:Option Addr) (w:World) (hl:L.length≤100000) (hrd:Rd w w.heap.size 4 (.slice A L.length c) L.length (tT L)) :
    Calls Tryz.prog 29 #[.slice A L.length c] w fun e w'=>∃v,e=.returned v∧w'.ownsRow w.heap.size 3 1 v (jY L L.length).length (zL (jY L L.length))∧Below w.heap.size w w':=by
  have H:=aa hrd;clear hrd;go_enter Tryz.func29,Tryz.ntmps29
  go_wp2_with (first
    | (go_at_call 55;refine(zi _ _ ⟨_,_,_,rfl⟩).mono ?_;rintro e w1 ⟨rfl,rfl⟩)
    | (go_at_call 45;have hba:Below w.heap.size w (w.alloc (.cells #[.slice A L.length c] 24)):=(aD _ w).alloc (an _) _;refine(Br _ c L A _ hl (Bk.new w _ _) (H.out.next hba)).mono ?_;rintro e w2 ⟨v,rfl,h1,h2⟩;have H2:=aa (ac (fF h1 hba.size) (hba.trans (h2.mono hba.size)));clear h1 h2 hba)
    | fail)
  go_ret;exact⟨_,rfl,H2.out⟩
theorem J5 (c:Nat) (L:List Nz) (A:Option Addr) (w:World) (hl:L.length≤100000) (hrd:Rd w w.heap.size 4 (.slice A L.length c) L.length (tT L)) :
    Calls Tryz.prog 30 #[.slice A L.length c] w fun e w'=>e=.returned (.bool (jY L L.length==[]))∧Below w.heap.size w w':=by
  obtain⟨b,hb⟩:∃b,b=(jY L L.length==[]):=⟨_,rfl⟩;have hb1:jY L L.length≠[]→b=false:=fun h=>by rw[hb];exact aL h
  have hb2:jY L L.length=[]→b=true:=fun h=>by rw[hb,h];rfl
  rw[←hb];have HBB:=aa (ac hb1 hb2);clear hb hb1 hb2;refine(aS (n:=5)).1 ?_;refine callsIn_of_wp_marks Tryz.func30 rfl trivial ?_ rfl;simp only[Tryz.ntmps30,bT,aO,bI,Nat.reduceAdd,Nat.reduceSub,bB,bC,bU,bG,bS,bv];have HR:=aa hrd;clear hrd;gi_wp2_with (
    (refine⟨trivial,?_⟩;gi_at_call 55;refine(aS.2 (zi _ _ ⟨_,_,_,rfl⟩)).mono ?_;rintro e w2 ⟨rfl,rfl⟩))
  obtain⟨W0,hW0⟩:∃W0,(w.alloc (.cells #[.bool false] 4)).alloc (.cells #[.slice A L.length c] 24)=W0:=⟨_,rfl⟩;have bO:Bk W0 w.heap.size 4 #[.bool false]:=by rw[←hW0];exact(Bk.new w _ _).alloc _
  have bL:Bk W0 (w.heap.size+1) 24 #[.slice A L.length c]:=by rw[←hW0];have:=Bk.new (w.alloc (.cells #[.bool false] 4)) 24 #[.slice A L.length c];rwa [bc] at this
  have hs0:W0.heap.size=w.heap.size+2:=by rw[←hW0];simp
  have hb0:Below w.heap.size w W0:=by rw[←hW0];exact((aD _ w).alloc (an _) _).alloc (by simp) _
  rw[hW0];clear hW0;have HW:=aa hb0;have hIo:∀(v:Value),OwnFrom (β:=List Nat) W0.heap.size (fun _ W=>Bk W w.heap.size 4 #[v]∧Below w.heap.size w W∧W0.heap.size≤W.heap.size):=fun v=>
    OwnFrom.and (fun (s:List Nat) W W' row (hs:Bk W w.heap.size 4 #[v]) hg hr=>hs.grown hg (fun e=>by have:=hr _ e.symm;omega)) (OwnFrom.and (ownFrom_below (an _) (by omega)) (iQ _ _))
  refine wpIn_rangeFunc_ownH rfl (by omega) (gf:=97) (lb:=#[.pointer (some ⟨w.heap.size+1,0,none⟩)]) rfl trivial (enters_of Tryz.func97 (by kernel_rfl) rfl)
    (qU (5-1) (w.heap.size+1) c w.heap.size L A W0 hl bL (HR.out.keep hb0 (an _)) hb0.size) (fun h k=>h.trans k) (fun W l o o' hl h1 h2 h3=>lc W l o o' (by omega) h1 h2 h3) (aD _ _) (fun _=>rfl)
    (fun pre W=>pre=[]∧Bk W w.heap.size 4 #[.bool false]∧Below w.heap.size w W∧W0.heap.size≤W.heap.size)
    (fun cc pre W=>cc=Code.ret∧Bk W w.heap.size 4 #[.bool false]∧Below w.heap.size w W∧W0.heap.size≤W.heap.size)
    (fun s W W' row hs hg hr=>⟨hs.1,hIo _ s W W' row hs.2 hg hr⟩) (fun cc s W W' row hs hg hr=>⟨hs.1,hIo _ s W W' row hs.2 hg hr⟩)
    ⟨rfl,bO,HW.out,an _⟩
    (fun x a' W=>a'={tmps:=#[.slice A L.length c,undef,.pointer (some ⟨w.heap.size,0,none⟩),.slice A L.length c,.func (.func 97) #[] #[.pointer (some ⟨w.heap.size+1,0,none⟩)],.int .i64 (x:Int)],defers:=[]})
    (fun x a' s W W' row hs hg hr=>hs) ?assign ?body ?done ?stop
  case assign=>
    intro l' pre x W K hI hK;have h1:=hK _ W (KeepsFrom.refl _ _) (eH.refl _ _ _) hI rfl;simp only[JP];gi_wp2;simpa using h1
  case body=>
    rintro l' pre x a' W hl1 hl2 ⟨hpre,hv,hB,hS⟩ rfl hlt;have hc:=hv.cell 0;simp only[aP,aM] at hc;have hf:=hv.frozen 0;have hset:Bk (W.setCell ⟨w.heap.size,0,none⟩ (.bool false)) w.heap.size 4 #[.bool false]:=hv.set 0 _;have hkf:KeepsFrom W0.heap.size W (W.setCell ⟨w.heap.size,0,none⟩ (.bool false)):=⟨by simp[World.setCell],fun k o hk h0 ho=>(bu _ _ _ k (by show k≠w.heap.size;omega)).trans h0⟩;have HB:=aa (ac hset (ac hkf (ac (hB.setCell (p:=⟨w.heap.size,0,none⟩) (an _) (.bool false)) hS)));clear hset hkf hB hv;gi_wp2_with fail;exact⟨HB.out.2.1,rfl,HB.out.1,HB.out.2.2.1,by simp[World.setCell];exact HB.out.2.2.2⟩
  case done=>
    rintro D ys W hD hys ⟨rfl,hv,hB,hS⟩ hK;have hbt:b=true:=HBB.out.2 hys.symm;have hc:=hv.cell 0;simp only[aP,aM] at hc;have hf:=hv.frozen 0;have hset:Bk (W.setCell ⟨w.heap.size,0,none⟩ (.bool true)) w.heap.size 4 #[.bool true]:=hv.set 0 _;have hK4:(W.setCell ⟨w.heap.size,0,none⟩ (.bool true)).heap[D]? = some (.deferred (some [])):=(bu _ _ _ D (by show D≠w.heap.size;omega)).trans hK;have hb4:Below w.heap.size w (W.setCell ⟨w.heap.size,0,none⟩ (.bool true)):=hB.setCell (p:=⟨w.heap.size,0,none⟩) (an _) _;have hbk:=belowK_b (w:=w) (an _) (W.setCell ⟨w.heap.size,0,none⟩ (.bool true)) D (.deferred (some [])) (.deferred none) (by omega) hK4 rfl rfl;have e0:((W.setCell ⟨w.heap.size,0,none⟩ (.bool true)).putObj D (.deferred none)).cell? ⟨w.heap.size,0,none⟩=some (.bool true):=by
      rw[Bk.cell (show Bk ((W.setCell ⟨w.heap.size,0,none⟩ (.bool true)).putObj D (.deferred none)) w.heap.size 4 #[.bool true] from (World.putObj_heap_other (by omega)).trans hset)];rfl
    have HD:=aa (ac hb4 (ac hbk (ac hK4 (ac e0 hbt))));clear hv hB hbk hK hK4 e0 hbt hset hb4 hys;gi_wp2;refine⟨by simp,.inl ⟨_,_,rfl,run_takeDeferred HD.out.2.2.1,?_⟩⟩;have e0:=HD.out.2.2.2.1;exact⟨.bool true,by simp[results,Tryz.results30,go_sem,e0],⟨by rw[HD.out.2.2.2.2],HD.out.1.trans HD.out.2.1⟩⟩
  case stop=>
    rintro D cd pre W hD hne ⟨rfl,hv,hB,hS⟩ hK;have hbk:=belowK_b (w:=w) (an _) W D (.deferred (some [])) (.deferred none) (by omega) hK rfl rfl;have e0:(W.putObj D (.deferred none)).cell? ⟨w.heap.size,0,none⟩=some (.bool false):=by
      rw[Bk.cell (show Bk (W.putObj D (.deferred none)) w.heap.size 4 #[.bool false] from (World.putObj_heap_other (by omega)).trans hv)];rfl
    have hbf:b=false:=HBB.out.1 hne;have HD:=aa (ac hB (ac hbk (ac hK (ac e0 hbf))));clear hv hB hbk hK e0 hbf;gi_wp2;refine⟨by simp,.inl ⟨_,_,rfl,run_takeDeferred HD.out.2.2.1,?_⟩⟩;have e0:=HD.out.2.2.2.1;exact⟨.bool false,by simp[results,Tryz.results30,go_sem,e0],⟨by rw[HD.out.2.2.2.2],HD.out.1.trans HD.out.2.1⟩⟩
end
def uE:List UInt8:=[105,102,32,97,59,32,116,104,101,110]
theorem DU:jY ((fP (mD uE)).l.map nz) ((fP (mD uE)).l.map nz).length=[10,11]:=by kernel_rfl
theorem Mn (w:World):Calls Tryz.prog 10 #[] w fun e w'=>e=.returned (.bool true)∧Below w.heap.size w w':=by
  obtain⟨Z,hZ⟩:∃Z,Z=(fP (mD uE)).l.map nz:=⟨_,rfl⟩;obtain⟨N,hN⟩:∃N,N=(fP (mD uE)).l.length:=⟨_,rfl⟩;have hzl:Z.length=N:=by rw[hZ,hN,cC]
  have hN9:N≤100000:=by
    have h1:=Dm (mD uE);have h2:=(wL uE (by decide)).n;omega
  have hf:jY Z Z.length=[10,11]:=by rw[hZ];exact DU
  have c1:∀W,Calls Tryz.prog 11 #[.string ⟨#[105,102,32,97,59,32,116,104,101,110]⟩] W fun e w'=>∃v1 v2,e=.returned (.tuple #[v1,v2])∧w'.ownsRow W.heap.size 56 4 v2 N (tT Z)∧Below W.heap.size W w':=fun W=>by
    refine(MD uE W (by decide)).mono ?_;rintro e w' ⟨v1,v2,rfl,_,h2,h3⟩;rw[Jp,←hZ,←hN] at h2;exact⟨v1,v2,rfl,h2,h3⟩
  have c2:∀(A:Option Addr) (c:Nat) W,Rd W W.heap.size 4 (.slice A N c) N (tT Z)→Calls Tryz.prog 29 #[.slice A N c] W fun e w'=>∃v,e=.returned v∧w'.ownsRow W.heap.size 3 1 v 2 (zL [10,11])∧Below W.heap.size W w':=fun A c W hR=>by
    have h:=GI c Z A W (by omega) (by rw[hzl];exact hR);rw[hf,hzl] at h;exact h
  have c3:∀(A:Option Addr) (c:Nat) W,Rd W W.heap.size 4 (.slice A N c) N (tT Z)→Calls Tryz.prog 30 #[.slice A N c] W fun e w'=>e=.returned (.bool false)∧Below W.heap.size W w':=fun A c W hR=>by
    have h:=J5 c Z A W (by omega) (by rw[hzl];exact hR);rw[hf,hzl] at h;exact h
  have HC:=aa (ac c1 (ac c2 c3));clear c1 c2 c3 hf hzl hZ hN hN9;go_enter Tryz.func10,Tryz.ntmps10
  go_wp2_with (first
    | (go_at_call 11;with_reducible refine(HC.out.1 _).mono ?_
       rintro e w1 ⟨v1,v2,rfl,ho,hb⟩;obtain⟨A1,n1,c1,rfl⟩:=dR ho;obtain rfl:=eF ho;have H1:=aa (ac ho hb);clear ho hb)
    | (go_at_call 29;refine(HC.out.2.1 _ _ _ (Rd.of_own H1.out.1)).mono ?_;rintro e w2 ⟨v,rfl,ho,hb⟩;obtain⟨A2,n2,c2,rfl⟩:=dR ho;have hn2:=eF ho;subst hn2;have H2:=aa (ac (dQ H1.out.1 hb) (H1.out.2.trans (hb.mono H1.out.2.size)));clear ho hb)
    | (go_at_call 30;refine(HC.out.2.2 _ _ _ (Rd.of_own H2.out.1)).mono ?_;rintro e w3 ⟨rfl,hb⟩;have H3:=aa (H2.out.2.trans (hb.mono H2.out.2.size));clear hb)
    | fail)
  go_ret;exact⟨rfl,H3.out⟩
section
open Go.RowKit Go.ChangeShapes Go.WideShapes Go.Deep
end
inductive CJ (l:List Nd) (a:Nat):Nat→Prop
  | refl:CJ l a a
  | step {b c:Nat} {n:Nd}:l[b]? = some n→n.up=(c:Int)→c<b→CJ l a c→CJ l a b
theorem CJ.app {l:List Nd} {a b:Nat} (h:CJ l a b) (m:List Nd):CJ (l++m) a b:=by
  induction h with
  | refl=>exact .refl
  | step h1 h2 h3 _ ih=>exact .step (by rw[aQ (aC.1 h1).1];exact h1) h2 h3 ih
theorem CJ.trans {l:List Nd} {a b c:Nat} (h:CJ l a b) (k:CJ l b c):CJ l a c:=by
  induction k with
  | refl=>exact h
  | step h1 h2 h3 _ ih=>exact .step h1 h2 h3 ih
structure DX (l:List Nd) (i:Nat) (n:Nd):Prop where
  k:NE n.kd n.fr n.tt
  le:n.fr≤n.tt
  u:0<i→∃(u:Nat) (m:Nd),n.up=(u:Int)∧u<i∧CJ l u (i-1)∧l[u]? = some m∧m.fr≤n.fr∧n.tt≤m.tt∧∀(k:Nat) (q:Nd),0<k→k<i→l[k]? = some q→q.up=n.up→q.tt≤n.fr
theorem DX.app {l:List Nd} {i:Nat} {n:Nd} (h:DX l i n) (hi:i<l.length∨i=l.length) (m:List Nd):DX (l++m) i n:=by
  refine⟨h.k,h.le,fun h0=>?_⟩;obtain⟨u,p,h1,h2,h3,h4,h5,h6,h7⟩:=h.u h0;refine⟨u,p,h1,h2,h3.app m,by rw[aQ (aC.1 h4).1];exact h4,h5,h6,fun k q k0 k1 k2 k3=>h7 k q k0 k1 ?_ k3⟩
  rwa [aQ (by omega)] at k2
def uJ (l:List Nd):Prop:=∀(i:Nat) (n:Nd),l[i]? = some n→DX l i n
theorem uJ.snoc {l:List Nd} (h:uJ l) {n:Nd} (hn:DX l l.length n):uJ (l++[n]):=by
  intro i m hm;rcases cO i l.length with hi|hi
  ·rw[aQ hi] at hm
   exact(h i m hm).app (.inl hi) _
  ·have hlt:=(aC.1 hm).1;simp only[aH,dC] at hlt;obtain rfl:i=l.length:=by omega
   rw[aT (an _)] at hm;simp at hm;subst hm;exact hn.app (.inr rfl) _
theorem Fo.row {b:Nat} {u:Int} {a c:Nat} {l:List Nd} (h:Fo b u a c l):∀(pre:List Nd) (v:Nat) (m:Nd),pre.length=b→u=(v:Int)→v<b→uJ pre→CJ pre v (b-1)→pre[v]? = some m→m.fr≤a→c≤m.tt →
    (∀(k:Nat) (q:Nd),0<k→pre[k]? = some q→q.up=u→q.tt≤a) →
    uJ (pre++l)∧CJ (pre++l) v (b+l.length-1)∧(∀(k:Nat) (q:Nd),0<k→(pre++l)[k]? = some q→q.up=u→q.tt≤c)∧(∀(k:Nat) (q:Nd),b≤k→(pre++l)[k]? = some q→q.up=u∨(b:Int)≤q.up):=by
  induction h with
  | nil h=>
    intro pre v m h1 h2 h3 h4 h5 h6 h7 h8 h9;rw[bM];exact⟨h4,h5,fun k q k0 k1 k2=>aA (h9 k q k0 k1 k2) h,fun k q k0 k1=>by have:=(aC.1 k1).1;omega⟩
  | @cons b u a c k x y ks r e1 e2 e3 e4 e5 ih1 ih2=>
    intro pre v m h1 h2 h3 h4 h5 h6 h7 h8 h9;have hyc:=e5.le;have hn:DX pre pre.length ⟨k,x,y,u⟩:=⟨e3,e2,fun _=>⟨v,m,h2,by omega,by rw[h1];exact h5,h6,by show m.fr≤x;omega,by show y≤m.tt;omega,fun k' q k0 k1 k2 k3=>aA (h9 k' q k0 k2 k3) e1⟩⟩;have r1:=h4.snoc hn;have g0:(pre++[⟨k,x,y,u⟩])[b]? = some ⟨k,x,y,u⟩:=by rw[aT (by omega),h1];simp
    have up0:∀(j:Nat) (q:Nd),0<j→j<b→pre[j]? = some q→q.up<(b:Int):=fun j q j0 j1 j2=>by
      obtain⟨w,_,w1,w2,_⟩:=(h4 j q j2).u j0;omega
    obtain⟨r2,r3,r4,r5⟩:=ih1 (pre++[⟨k,x,y,u⟩]) b ⟨k,x,y,u⟩ (by simp[h1]) rfl (by omega) r1 (by rw[show b+1-1=b by omega];exact .refl) g0 (an _) (an _) (fun j q j0 j1 j2=>by
      rcases cO j b with hj|hj
      ·rw[aQ (by omega)] at j1
       have:=up0 j q j0 hj j1
       omega
      ·have:=(aC.1 j1).1
       simp only[aH,dC] at this;obtain rfl:j=b:=by omega
       rw[g0] at j1;injection j1 with j1
       subst j1;have j2:u=_:=j2;omega)
    have g1:(pre++[⟨k,x,y,u⟩]++ks)[v]? = some m:=by
      rw[cq,aQ (by omega)];exact h6
    have g2:(pre++[⟨k,x,y,u⟩]++ks)[b]? = some ⟨k,x,y,u⟩:=by
      rw[aQ (by simp;omega)];exact g0
    have a1:CJ (pre++[⟨k,x,y,u⟩]++ks) v b:=by
      refine .step g2 h2 h3 ?_;exact .refl
    obtain⟨r6,r7,r8,r9⟩:=ih2 (pre++[⟨k,x,y,u⟩]++ks) v m (by simp;omega) h2 (by omega) r2 (by
        have:=a1.trans r3
        rwa [show b+1+ks.length-1=b+1+ks.length-1 from rfl] at this) g1 (by omega) h8 (fun j q j0 j1 j2=>by
      rcases cO j b with hj|hj
      ·rw[cq,aQ (by omega)] at j1
       have:=h9 j q j0 j1 j2
       omega
      ·rcases cO j (b+1) with hj2|hj2
       ·obtain rfl:j=b:=by omega
        rw[g2] at j1;injection j1 with j1
        subst j1;exact an _
       ·rcases r5 j q hj2 j1 with h|h
        ·omega
        ·omega)
    have e:pre++⟨k,x,y,u⟩::(ks++r)=pre++[⟨k,x,y,u⟩]++ks++r:=by simp
    rw[e];refine⟨r6,?_,r8,fun j q j0 j1=>?_⟩
    ·rw[show b+(⟨k,x,y,u⟩::(ks++r):List Nd).length-1=b+1+ks.length+r.length-1 by simp;omega];exact r7
    ·rcases cO j (b+1+ks.length) with hj|hj
     ·rw[aQ (by simp;omega)] at j1;rcases cO j (b+1) with hj2|hj2
      ·obtain rfl:j=b:=by omega
       rw[g2] at j1;injection j1 with j1
       subst j1;exact .inl rfl
      ·rcases r5 j q hj2 j1 with h|h
       ·exact .inr (by omega)
       ·exact .inr (by omega)
     ·rcases r9 j q hj j1 with h|h
      ·exact .inl h
      ·exact .inr (by omega)
theorem vt (F:List Lf):uJ (fP F).l∧∃r,(fP F).l=⟨1,0,F.length, -1⟩::r:=by
  have h:=fun t (ht:t.p=(ki 0).p)=>qR (lT F (F.length+1)) _ (t,false) rfl (by rw[ht];exact bK _)
  obtain⟨h1,h2⟩:=h {ki 0 with l:=(ki 0).l++[⟨1,(ki 0).p,0,(ki 0).up⟩],up:=((ki 0).l.length:Int)} rfl;obtain⟨m,h3,h4⟩:=h1.f;have e:(fP F).l=⟨1,0,F.length, -1⟩::m:=by
    show jm (mj F (wM F (F.length+1)) ({ki 0 with l:=(ki 0).l++[⟨1,(ki 0).p,0,(ki 0).up⟩],up:=((ki 0).l.length:Int)},false)).1.l 0 (mj F (wM F (F.length+1)) ({ki 0 with l:=(ki 0).l++[⟨1,(ki 0).p,0,(ki 0).up⟩],up:=((ki 0).l.length:Int)},false)).1.p=_;rw[h3,h2];rfl
  have r0:uJ [⟨1,0,F.length, -1⟩]:=by
    intro i n hn
    have:=(aC.1 hn).1
    simp at this;subst this;simp at hn;subst hn;exact⟨⟨an _,Nat.le_add_left 1 17,fun e=>absurd (show 1=17 from e) (by decide),fun e=>absurd (show 1=18 from e) (by decide)⟩,bK _,fun h=>absurd h (Nat.lt_irrefl _)⟩
  have h5:Fo 1 ((0:Nat):Int) 0 F.length m:=by rw[h2] at h4;exact h4
  have h6:=h5.row [⟨1,0,F.length, -1⟩] 0 _ rfl rfl (by omega) r0 .refl rfl (bK _) (an _) (fun k q k0 k1 _=>by
    have:=(aC.1 k1).1
    simp at this;omega)
  rw[e];exact⟨h6.1,m,rfl⟩
end Go.Proofs.YtcagfamdoaoimaaGreatDoor
