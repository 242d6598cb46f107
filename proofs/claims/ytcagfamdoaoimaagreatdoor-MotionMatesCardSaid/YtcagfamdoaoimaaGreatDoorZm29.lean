/- The last step of a law: the call answered true and kept all that was there; so the row's post holds. -/
import Derived.Test.YtcagfamdoaoimaaGreatDoorRows
import Derived.Test.YtcagfamdoaoimaaGreatDoorRfy
import Derived.Test.YtcagfamdoaoimaaGreatDoorBv8
import Derived.Test.YtcagfamdoaoimaaGreatDoorQc13
import Derived.Test.YtcagfamdoaoimaaGreatDoorCls
import Derived.Test.YtcagfamdoaoimaaGreatDoorMem
import Derived.Test.YtcagfamdoaoimaaGreatDoorMo9
import Derived.Test.YtcagfamdoaoimaaGreatDoorPl13
import Derived.Test.YtcagfamdoaoimaaGreatDoorWs13
import Derived.WalkKit
import Derived.ProofKit
import Derived.OpenShut
import Derived.ShutString
import Derived.Below
import Derived.ChangeSame
set_option linter.unusedVariables false
set_option linter.unusedSimpArgs false
set_option maxRecDepth 100000
set_option maxHeartbeats 8000000
namespace Go.Proofs.YtcagfamdoaoimaaGreatDoor
open Go.ChangeShapes Go.WideShapes Go.ChangeAt Go.RowKit
theorem Ng {H:Type} {enc:TypeId×Value→H} {f:Func} {s:ChangeSpec} {apart fresh handsOn again:Bool} {W W':World} {args:Array Value} {ds:List (DataW H)} {pl:List MemPlace}
    (hW:DataW.Whole enc Tryz.prog f.params.toList s.vars apart W args.toList ds [] pl) (hb:Below W.heap.size W W') (hv:s.vars=[])
    (hfn:s.fn H (ds++[])={results:=[.lit (.bool true)],args:=ds,vars:=[]}) (hres:f.resultTypes=#[4])
    (hargs:∀sp:Nat→Bool,(∀p∈pl,sp p.block=true)→DataW.TrodAll enc Tryz.prog W' 0 sp true f.params.toList args.toList ds pl) :
    s.post enc Tryz.prog f apart fresh handsOn again W args (.bool true) W':=by
  have old:∀p∈pl,p.block<W.heap.size:=fun p hp=>hW.lt p hp
  have hR:∀(b:Nat) (sp:Nat→Bool) (hd:Bool),DataW.TrodAll enc Tryz.prog W' b sp hd f.resultTypes.toList ((Value.bool true).resultList f.resultTypes.size) (s.fn H (ds++[])).results []:=by
    intro b sp hd;rw[hres,hfn];exact trodAll_cons_mk (shut_bool Tryz.underlying4 _) trodAll_mk0
  have hA:∀sp:Nat→Bool,(∀p∈pl,sp p.block=true)→DataW.TrodAll enc Tryz.prog W' 0 sp true f.params.toList args.toList (s.fn H (ds++[])).args pl:=by
    intro sp h;rw[hfn];exact hargs sp h
  have hV:∀sp:Nat→Bool,DataW.TrodVars enc Tryz.prog W' sp s.vars (s.fn H (ds++[])).vars []:=by
    intro sp;rw[hfn,hv];rfl
  refine⟨ds,[],pl,[],pl,[],hW,hR _ _ _,hA _ (fun p hp=>by simpa using old p hp),hV _,World.keptBut_mono (fun p hp=>⟨hp,?_⟩) (hb.frame (· ∈ pl)),fun _=>?_⟩
  ·simpa using hp
  ·obtain⟨_,_,_,_,_,hz,hn⟩:=hW;refine⟨?_,_,_,pl++[],⟨[]++pl,[],trodAll_append (hA _ (fun _ _=>rfl)) (hR _ _ _),hV _,by simp,?_,?_⟩,?_⟩
   ·exact ok_one (by rw[hres]) rfl (okWide_bool_mk Tryz.underlying4 _)
   ·intro b off hp;have hin:MemPlace.cell b off∈pl:=by simpa using hp
    rw[hb.frozen (old _ hin)];exact hz b off hin
   ·intro ha;simpa using hn ha
   ·intro p hp _;simpa using hp
end Go.Proofs.YtcagfamdoaoimaaGreatDoor
namespace Go.Proofs.YtcagfamdoaoimaaGreatDoor
open Go.RowKit
attribute [local go_sem] Oper.semAt_some
def xD (l:List Nat):List Value:=l.map fun (i:Nat)=>Value.int .i64 (i:Int)
theorem Gr (l:List Nat) (x:Nat):xD (l++[x])=xD l++xD [x]:=by simp[xD]
theorem Ly (l:List Nat):∀u∈xD l,u.oneCell'=true:=by
  intro u hu;obtain⟨x,_,rfl⟩:=bX.1 hu;rfl
theorem Tryz.infoInt29:(Tryz.prog.info? 3).map (fun i=>(i.zero,i.size,i.bytes))=some (some (.int .i64 0),1,8):=by kernel_rfl
def sB (gf:Nat) (lb:Array Value) (N:List Nat) (w:World):Prop:=
  (∀args w,(callFunc gf args).run Tryz.prog w=.ok (.enter gf args) w)∧∀W0,Below w.heap.size w W0→Kl Tryz.prog gf lb Bt (eN w.heap.size fun _=>False) (fun xs=>xs=N) (fun _=>True) N W0
theorem DX (gf:Nat) (lb:Array Value) (N:List Nat) (w:World) (hN:N.length≤100000) (hI:sB gf lb N w) :
    Calls Tryz.prog 74 #[.slice none 0 0,.func (.func gf) #[] lb] w fun e w'=>∃v,e=.returned v∧w'.ownsRow w.heap.size 3 1 v N.length (xD N)∧Below w.heap.size w w':=by
  obtain⟨i0,hi,hz0,hz1,hz2⟩:=cD Tryz.infoInt29;refine(aU (n:=5)).1 ?_;refine callsIn_of_wp_marks Tryz.func74 rfl trivial ?_ rfl;simp only[Tryz.ntmps74,bU,aP,bI,Nat.reduceAdd,Nat.reduceSub,bE,bF,bV,bJ,bT,bu];gi_wp2_with fail;obtain⟨W0,hW0⟩:∃W0,w.alloc (.cells #[.slice none 0 0] 35)=W0:=⟨_,rfl⟩;have bO:Boxed W0 w.heap.size 35 (.slice none 0 0):=by rw[←hW0];exact Boxed.new w _ _
  have hs0:W0.heap.size=w.heap.size+1:=by rw[←hW0];simp
  have hb0:Below w.heap.size w W0:=by rw[←hW0];exact(aC _ w).alloc (au _) _
  rw[hW0];clear hW0
  refine nG (by omega) (gf:=gf) (lb:=lb) rfl hI.1 (hI.2 W0 hb0) (fun h k=>h.trans k) (fun W l o o' hl h1 h2 h3=>oJ W l o o' (by omega) h1 h2 h3) (aC _ _) (fun _=>rfl)
    (fun X pre W=>Cb w.heap.size W0.heap.size w.heap.size 35 3 1 w pre.length (xD pre) X W)
    (fun _ _ _ _=>False)
    (Cb.fits (n:=fun pre:List Nat=>pre.length) (xs:=fun pre=>xD pre) (by omega)) (fun _ _ _ _ _ h _=>h) (fun X pre W W' row h hg hr=>Hh _ _ _ _ _ _ _ _ _ _ X (by omega) (au _) () W W' row h hg hr) (fun _ _ _ _ _ _ h _ _=>h)
    ⟨⟨_,bO,cj _ _ _ _,fun h=>h,fun _ _ h=>h⟩,hb0,au _,fun _ h=>h.elim⟩
    (fun x a' W=>a'={tmps:=#[.slice none 0 0,.func (.func gf) #[] lb,.pointer (some ⟨w.heap.size,0,none⟩),undef,.slice none 0 0,.int .i64 (x:Int),.func (.func gf) #[] lb,.int .i64 (x:Int),undef,undef,undef,undef,undef],defers:=[]})
    (fun x a'=>fun _ _ _ _ h _ _=>h) ?assign ?body ?done ?stop
  case assign=>
    intro l' X pre x W K hI hpx hK;gi_wp2;exact hK _ _ (ix (aC _ _)) (eN.refl _ _ _) (fun k hk=>rfl) hI rfl
  case body=>
    rintro l' X pre x a' W hl1 hl2 ⟨⟨v,hv,hrow,hnx⟩,hB,hS,hxb⟩ rfl hpx;have hlen:pre.length+1≤100000:=by have:=hpx.length_le;simp at this;omega
    have hc:=hv.cell;have hf:=hv.frozen;have hbxl:=Boxed.lt hv;gi_wp2_with (
      (gi_at_builtin;have hrd:=fQ W (xD [x]) 3 1 1 rfl (by omega);refine i6 _ rfl (.tmp 8) (.tmp 10) 35 rfl W0.heap.size 3 i0 _ 1 8 Tryz.underlying35 hi hz0 hz1 hz2 rfl (by decide) v pre.length (xD pre) rfl (hrow.alloc _) (.slice (some ⟨W.heap.size,0,none⟩) 1 1) 1 (W.heap.size+1) (xD [x]) rfl hrd (Ly _) (by unfold maxLen;omega) (by omega) (by rw[aV];omega) ?_;intro v6 w6 hown6 hg6 hv6;have k6:Bk w6 w.heap.size 35 #[v]:=Bk.overrow (w:=W.alloc _) (Bk.alloc hv _) (hrow.alloc _) hg6 (by decide);have c6:=Boxed.cell k6;have f6:=Boxed.frozen k6;obtain⟨A6,n6,c6',rfl⟩:=dR hown6;have H6:=aa (ac hown6 (ac hg6 hv6));clear hown6 hg6 hv6 k6 hrd))
    obtain⟨h6,hg6,hv6⟩:=H6.out;rw[←Gr,show pre.length+1=(pre++[x]).length by simp] at h6;exact Cb.app (M:=W0.heap.size) (n₀:=w.heap.size) (Xc:=fun _=>False) hv hrow hnx hB hS hxb (by decide) (au _) (by omega) (au _) (au _) ((aC _ _).alloc (au _) _) hg6 h6 hv6
  case done=>
    rintro D X ys W hD rfl ⟨⟨v,hv,hrow,hnx⟩,hB,hS,hxb⟩ hK;have hc:=hv.cell;have hbk:=belowK_b (w:=w) (au _) W D (.deferred (some [])) (.deferred none) (by omega) hK rfl rfl;have hrow3:=hrow.kept (grownBy_putObj' W D (.deferred none)) (.inr (fun e=>by have:=iz hrow e hK;cases this));have HD:=aa (ac hB (ac hbk hrow3));have HK2:=aa hK;clear hB hbk hrow hrow3 hv hK hnx hxb;gi_wp2;refine⟨by simp,.inl ⟨_,_,rfl,run_takeDeferred HK2.out,?_⟩⟩;exact⟨v,by simp[results,Tryz.results74,go_sem],⟨_,rfl,fK HD.out.2.2 (by omega),HD.out.1.trans HD.out.2.1⟩⟩
  case stop=>
    intro D c X pre W _ _ h _;exact h.elim
theorem uE (gf:Nat) (lb:Array Value) (N:List Nat) (w:World) (hN:N.length≤100000) (hI:sB gf lb N w) :
    Calls Tryz.prog 45 #[.func (.func gf) #[] lb] w fun e w'=>∃v,e=.returned v∧w'.ownsRow w.heap.size 3 1 v N.length (xD N)∧Below w.heap.size w w':=by
  have H:=aa (DX gf lb N w hN hI);clear hI;go_enter Tryz.func45,Tryz.ntmps45;go_wp2_with (
    (go_at_call 74;refine H.out.mono ?_;rintro e w2 ⟨v,rfl,h1,h2⟩;have H2:=aa (ac h1 h2);clear h1 h2))
  go_ret;exact⟨_,rfl,H2.out⟩
end Go.Proofs.YtcagfamdoaoimaaGreatDoor
namespace Go.Proofs.YtcagfamdoaoimaaGreatDoor
open Go.RowKit
attribute [local go_sem] Oper.semAt_some
def jf (c:UInt8):Bool:=eT c==5||eT c==6
theorem BR (c:UInt8) (w:World):Calls Tryz.prog 78 #[.int .u8 (c.toNat:Int)] w fun e w'=>e=.returned (.bool (jf c))∧w'=w:=by
  unfold jf;have hc:=sF c;generalize eT c=z at *;have H:=aa hc;clear hc
  cases hz:(z==5);all_goals (
    go_enter Tryz.func78,Tryz.ntmps78;go_wp2_with (go_at_call 120;refine(H.out _).mono ?_;rintro e w' ⟨rfl,rfl⟩);go_ret;exact⟨rfl,rfl⟩)
def D5 (bf:Nat) (bg:UInt8→UInt8→Bool):Prop:=(∀args w,(callFunc bf args).run Tryz.prog w=.ok (.enter bf args) w)∧∀(a b:UInt8) (W:World),Calls Tryz.prog bf #[.int .u8 (a.toNat:Int),.int .u8 (b.toNat:Int)] W fun e w'=>e=.returned (.bool (bg a b))∧w'=W
theorem NL:D5 77 (fun a b => !jf a&&jf b):=⟨enters_of Tryz.func77 (by kernel_rfl) rfl,fun a b W=>by
  dsimp only;have h1:=BR a;have h2:=BR b;generalize jf a=x at *;generalize jf b=y at *;have H:=aa (ac h1 h2);clear h1 h2
  cases x;all_goals (
    go_enter Tryz.func77,Tryz.ntmps77;go_wp2_with (go_at_call 78;(first|(with_reducible refine(H.out.1 _).mono ?_)|(with_reducible refine(H.out.2 _).mono ?_));rintro e w' ⟨rfl,rfl⟩);go_ret;exact⟨rfl,rfl⟩)⟩
def DO (bg:UInt8→UInt8→Bool) (l:List UInt8) (i:Nat):Bool:=decide (1≤i)&&bg (l.getD (i-1) 0) (l.getD i 0)
def mF (bg:UInt8→UInt8→Bool) (l:List UInt8) (k:Nat):List Nat:=(List.range k).filter (DO bg l)
theorem vV (bg:UInt8→UInt8→Bool) (l:List UInt8) (k:Nat):mF bg l (k+1)=mF bg l k++(if DO bg l k=true then [k] else []):=by
  unfold mF;rw[List.range_succ,List.filter_append];congr 1;by_cases h:DO bg l k=true
  ·rw[aD h];simp[h]
  ·rw[aB h];simp[h]
theorem Hk (bg:UInt8→UInt8→Bool) (l:List UInt8) {k n:Nat} (h:k≤n):mF bg l k<+:mF bg l n:=by
  induction h with
  | refl=>exact List.prefix_refl _
  | step _ ih=>exact ih.trans ⟨_,(vV bg l _).symm⟩
theorem YC.one {l':Nat} {N:List Nat} {n₀:Nat} {Xc:Nat→Prop} {J Jx:(Nat→Prop)→List Nat→World→Prop} (hY:YC l' N n₀ Xc J Jx) {X:Nat→Prop} {pre:List Nat} {x:Nat} {W1:World} (hj:J X pre W1) (hN:pre++[x]<+:N) (m:Nat) :
    YieldAt Fence.wide m Tryz.prog l' (Bt x) W1 fun e W'=>∃bb:Bool,e=.returned (.bool bb)∧(bb=true→J X (pre++[x]) W')∧(bb=false→Jx X (pre++[x]) W')∧eN n₀ Xc W1 W'∧∀k,X k→W'.heap[k]? = W1.heap[k]? := by
  obtain⟨fn,tmps,assign,body,hy,hR⟩:=hY X pre x W1 hj hN m;refine⟨fn,tmps,assign,body,hy,hR.mono ?_⟩;rintro e W' (⟨rfl,h1,h2,h3⟩|⟨rfl,h1,h2,h3⟩)
  ·exact⟨true,rfl,fun _=>h1,fun h=>(by cases h),h2,h3⟩
  ·exact⟨false,rfl,fun h=>(by cases h),fun _=>h1,h2,h3⟩
theorem DL (n l' sb fb bf n₀:Nat) (bg:UInt8→UInt8→Bool) (hbf:D5 bf bg) (Xc:Nat→Prop) (l:List UInt8) (J Jx:(Nat→Prop)→List Nat→World→Prop) (hF:kH J) (hY:YC l' (mF bg l l.length) n₀ Xc J Jx) (hl:l.length≤900) (W:World) (hs:Bk W sb 9 #[.string ⟨l.toArray⟩]) (hs1:sb<n₀∧¬Xc sb) (hf:Bk W fb 107 #[.func (.func bf) #[] #[]]) (hf1:fb<n₀∧¬Xc fb) (wn:n₀≤W.heap.size) (h0:J (fun _=>False) [] W) :
    CallsIn Fence.wide n Tryz.prog 119 #[.func (.yield l') #[] #[],.pointer (some ⟨sb,0,none⟩),.pointer (some ⟨fb,0,none⟩)] W fun e W'=>(∃v,e=.returned v)∧((∃xs X,xs=mF bg l l.length∧J X xs W')∨(∃pre X,True∧Jx X pre W')):=by
  have hd0:=pN.start (Xc:=Xc) h0 (fun k hk=>hk.elim) wn;have HK:=aa (ac hY (ac hbf (ac hs (ac hf hd0))));have hsl:=hs.lt;have hfl:=hf.lt;clear hY hbf hs hf hd0 h0;refine dk Tryz.func119 rfl trivial ?_ rfl;simp only[Tryz.ntmps119,bU,aP,bI,Nat.reduceAdd,Nat.reduceSub,bE,bF,bV,bJ,bT,bu];gi_wp2_with fail;gi_loopw [4] (fun i wr=>∃(k:Nat) (X:Nat→Prop),1≤k∧(k≤l.length∨k=1)∧i=.int .i64 k∧pN J W wr n₀ Xc (fun _=>False) X (mF bg l k)) (fun i _=>l.length-(intOf i).toNat)
  case atStart=>exact⟨1,_,au _,.inr rfl,rfl,HK.out.2.2.2.2⟩
  case round=>
    obtain⟨k,X,hk1,hk2,rfl,hd⟩:=hrel;have hks:Bk wr sb 9 #[.string ⟨l.toArray⟩]:=(hd.kx.same sb hs1.1 hs1.2).trans HK.out.2.2.1;have hkf:Bk wr fb 107 #[.func (.func bf) #[] #[]]:=(hd.kx.same fb hf1.1 hf1.2).trans HK.out.2.2.2.1;have y0:wr.cell? ⟨sb,0,none⟩=some (.string ⟨l.toArray⟩):=by rw[hks.cell];rfl
    have y1:wr.cell? ⟨fb,0,none⟩=some (.func (.func bf) #[] #[]):=by rw[hkf.cell];rfl
    by_cases hkl:k<l.length
    ·obtain⟨a,ha⟩:∃a,l[k-1]? = some a:=⟨_,ax (by omega)⟩;obtain⟨b,hb⟩:∃b,l[k]? = some b:=⟨_,ax hkl⟩;have hB:DO bg l k=bg a b:=by unfold DO;rw[aG hk1,cK,aE,ha,aE,hb];rfl
     have hsuc:=vV bg l k;rw[hB] at hsuc;obtain⟨j,rfl⟩:∃j,k=j+1:=⟨k-1,by omega⟩;rw[dI] at ha;obtain⟨p1,p2⟩:=ay.1 ha;obtain⟨p3,p4⟩:=ay.1 hb;have q1:∃h:j<(ByteArray.mk l.toArray).size,(ByteArray.mk l.toArray)[j]'h=a:=⟨p1,p2⟩;have q2:∃h:j+1<(ByteArray.mk l.toArray).size,(ByteArray.mk l.toArray)[j+1]'h=b:=⟨p3,p4⟩;obtain⟨q3,q4⟩:=q1;obtain⟨q5,q6⟩:=q2;have u1:(j:Int)+1<(l.length:Int):=by omega
     have u2:(0:Int)≤(j:Int):=by omega
     have u3:(j:Int)<(l.length:Int):=by omega
     have u4:(0:Int)≤(j:Int)+1:=by omega
     have v1:IntKind.i64.wrap ((j:Int)+1-1)=(j:Int):=by rw[Int.add_sub_cancel];exact aS _ (by omega)
     have v2:IntKind.i64.wrap (j:Int)=(j:Int):=aS _ (by omega);have v3:IntKind.i64.wrap ((j:Int)+1+1)=(j:Int)+1+1:=aS _ (by omega);have hcl:=HK.out.2.1.2 a b;have he:=HK.out.2.1.1 #[.int .u8 (a.toNat:Int),.int .u8 (b.toNat:Int)] wr.drew;have hdq:=hd.below hF (aC _ wr).drew;have hpre:bg a b=true→mF bg l (j+1)++[j+1]<+:mF bg l l.length:=fun h=>by
       have:=Hk bg l (k:=j+1+1) (n:=l.length) (by omega)
       rw[hsuc,aD h] at this;exact this
     generalize bg a b=z at *;have HC:=aa (ac hcl (ac hdq hsuc));clear hcl hdq hsuc ha hb p2 p4 hB hd hks hkf hk2
     cases z
     ·clear hpre;gi_wp2_with fail;refine i5 0 12 (by kernel_rfl) (by kernel_rfl) fun K hK=>?_
      simp only[cF,List.take_zero,List.drop_succ_cons,dt] at hK ⊢;refine hK _ _ ?_;clear hK K
      repeat still_step
      still_call (Calls.mono (HC.out.1 _) (fun e w'' hh=>hh))
      repeat still_step
      try refine wpStill_nil ?_
      gi_wp2_with (first
        | ((with_reducible refine⟨fun f h=>?_,?_⟩);cases h))
      exact⟨⟨j+1+1,_,by omega,.inl (by omega),by go_num,by rw[HC.out.2.2,aB (by decide),bz];exact HC.out.2.1⟩,by simp[intOf];omega⟩
     ·obtain⟨fn,tmps,assign,body,hy,hR⟩:=HK.out.1.one HC.out.2.1.j (hpre rfl) (n-1);have hr8:=aa hR;simp only[Bt] at hy;rw[show ((j+1:Nat):Int)=(j:Int)+1 by omega] at hy;have hy8:=aa hy;clear hR hy hpre;gi_wp2_with fail;refine i5 0 12 (by kernel_rfl) (by kernel_rfl) fun K hK=>?_
      simp only[cF,List.take_zero,List.drop_succ_cons,dt] at hK ⊢;refine hK _ _ ?_;clear hK K
      repeat still_step
      still_call (Calls.mono (HC.out.1 _) (fun e w'' hh=>hh))
      repeat still_step
      try refine wpStill_nil ?_
      gi_wp2_with (first
        | (rw[hy8.out]))
      refine⟨fun h=>by simp[Fence.wide] at h,?_⟩;refine hr8.out.mono ?_;rintro e W7 ⟨b8,rfl,hj7,hjx7,hk7,hs7⟩
      cases b8
      ·have H8:=aa (hjx7 rfl);clear hj7 hjx7 hk7 hs7;gi_wp2_with fail;refine aK (results_none rfl _ _ _) rfl ?_;exact⟨⟨_,rfl⟩,.inr ⟨_,_,trivial,H8.out⟩⟩
      ·have H8:=aa (HC.out.2.1.next (hj7 rfl) hk7 hs7);clear hj7 hjx7 hk7 hs7;gi_wp2_with fail;exact⟨⟨j+1+1,_,by omega,.inl (by omega),by go_num,by rw[HC.out.2.2,aD (by trivial)];exact H8.out⟩,by simp[intOf];omega⟩
    ·have HE:=aa hd;clear hd hks hkf;have hkE:mF bg l k=mF bg l l.length:=by
       rcases hk2 with h|h
       ·rw[show k=l.length by omega]
       ·subst h;have h0:l.length=0∨l.length=1:=by omega
        rcases h0 with h|h<;>rw[h]<;>rfl
     have HX:=aa hkE;clear hkE hk2;gi_wp2_with fail;go_end0;exact⟨⟨_,rfl⟩,.inl ⟨_,X,rfl,by rw[←HX.out];exact HE.out.j⟩⟩
theorem Hj (l:List UInt8) (bf:Nat) (w:World) :
    Calls Tryz.prog 75 #[.string ⟨l.toArray⟩,.func (.func bf) #[] #[]] w fun e w'=>e=.returned (.func (.func 119) #[] #[.pointer (some ⟨w.heap.size,0,none⟩),.pointer (some ⟨w.heap.size+1,0,none⟩)])∧w'=(w.alloc (.cells #[.string ⟨l.toArray⟩] 9)).alloc (.cells #[.func (.func bf) #[] #[]] 107):=by
  go_enter Tryz.func75,Tryz.ntmps75;go_wp2;go_ret;exact⟨by simp,rfl⟩
theorem oR (l:List UInt8) (hl:l.length≤900) (bf:Nat) (bg:UInt8→UInt8→Bool) (hbf:D5 bf bg) (w:World) :
    Calls Tryz.prog 75 #[.string ⟨l.toArray⟩,.func (.func bf) #[] #[]] w fun e w'=>∃gf lb,e=.returned (.func (.func gf) #[] lb)∧sB gf lb (mF bg l l.length) w'∧Below w.heap.size w w':=by
  refine(Hj l bf w).mono ?_;rintro e w' ⟨rfl,hw⟩;have hs:w'.heap.size=w.heap.size+2:=by rw[hw];simp
  have k1:Bk w' w.heap.size 9 #[.string ⟨l.toArray⟩]:=by rw[hw];exact(Bk.new w _ _).alloc _
  have k2:Bk w' (w.heap.size+1) 107 #[.func (.func bf) #[] #[]]:=by rw[hw];exact fH w _ _ _ _
  refine⟨_,_,rfl,⟨enters_of Tryz.func119 (by kernel_rfl) rfl,fun W0 hW0=>?_⟩,by rw[hw];exact((aC _ w).alloc (au _) _).alloc (by simp) _⟩;intro n l' J Jx W hW hF _ hY hJ;have hb:=hW0.trans (hW.mono hW0.size);exact DL n l' _ _ bf w'.heap.size bg hbf _ l J Jx hF hY hl W (k1.below hb k1.lt) ⟨by omega,fun h=>h⟩ (k2.below hb k2.lt) ⟨by omega,fun h=>h⟩ hb.size hJ
end Go.Proofs.YtcagfamdoaoimaaGreatDoor
namespace Go.Proofs.YtcagfamdoaoimaaGreatDoor
open Go.RowKit
attribute [local go_sem] Oper.semAt_some
theorem mX {α β:Type} (g:α→List β) {F:List α} {k:Nat} {x:α} (h:F[k]? = some x):(F.take (k+1)).flatMap g=(F.take k).flatMap g++g x:=by
  rw[List.take_add_one,h,List.flatMap_append];simp
theorem nS {α β:Type} (g:α→List β) (F:List α) (k:Nat):(F.take k).flatMap g<+:F.flatMap g:=by
  refine⟨(F.drop k).flatMap g,?_⟩;rw[←List.flatMap_append,dr]
theorem yT {l:List UInt8} {t:Tz} {x:Lf} (h:x∈kK l t):0≤x.fr∧x.fr=t.fr∧x.kd=t.kd∧x.to=t.to:=by
  unfold kK at h;split at h
  ·rename_i hc;simp only[cE] at h;subst h;have h1:=hc.1;unfold yZ at h1;simp only[aT,bW] at h1;exact⟨h1.1.1,rfl,rfl,rfl⟩
  ·simp at h
end Go.Proofs.YtcagfamdoaoimaaGreatDoor
namespace Go.Proofs.YtcagfamdoaoimaaGreatDoor
open Go.RowKit
attribute [local go_sem] Oper.semAt_some
theorem vL (p:Nat→Bool) (k:Nat):(List.range (k+1)).filter p=(List.range k).filter p++(if p k=true then [k] else []):=by
  rw[List.range_succ,List.filter_append];congr 1;by_cases h:p k=true
  ·rw[aD h];simp[h]
  ·rw[aB h];simp[h]
theorem zv (p:Nat→Bool) (k:Nat):((List.range k).filter p).length≤k:=by
  have:=List.length_filter_le p (List.range k)
  rwa [List.length_range] at this
end Go.Proofs.YtcagfamdoaoimaaGreatDoor
namespace Go.Proofs.YtcagfamdoaoimaaGreatDoor
open Go.RowKit
attribute [local go_sem] Oper.semAt_some
end Go.Proofs.YtcagfamdoaoimaaGreatDoor
namespace Go.Proofs.YtcagfamdoaoimaaGreatDoor
open Go.RowKit
attribute [local go_sem] Oper.semAt_some
theorem Gd.node29 {N A k:Nat} {s:Ps} {f:Ps→Ps} (h:∀t:Ps,t.p=s.p→t.deep=s.deep→Gd N A t (f t)) (hk:1≤k∧k≤16:=by decide):Gd N (A+1) s (dO k f s):=Gd.node (h _ rfl rfl) ⟨hk.1,by omega,fun e=>by omega,fun e=>by omega⟩
theorem Bo (F:List Lf):Gd F.length 5 (iW 0) (eP F)∧(eP F).p=F.length:=by
  have h:=fun t (ht:t.p=(iW 0).p)=>mT (jp F (F.length+1)) _ (t,false) rfl (by rw[ht];exact bv _)
  exact⟨Gd.node29 (A:=4) fun t ht _=>(h t ht).1,(h {iW 0 with l:=(iW 0).l++[⟨1,(iW 0).p,0,(iW 0).up⟩],up:=((iW 0).l.length:Int)} rfl).2⟩
theorem yz (F:List Lf):(eP F).l.length≤16*F.length+5:=by
  obtain⟨h1,h2⟩:=Bo F;have h3:=h1.b;rw[h2] at h3;have e1:(iW 0).l.length=0:=rfl;have e2:(iW 0).p=0:=rfl;omega
theorem map_take {α β:Type} (g:α→β) {F:List α} {k:Nat} {x:α} (h:F[k]? = some x):(F.take (k+1)).map g=(F.take k).map g++[g x]:=by
  rw[List.take_add_one,h,cw];rfl
end Go.Proofs.YtcagfamdoaoimaaGreatDoor
namespace Go.Proofs.YtcagfamdoaoimaaGreatDoor
open Go.RowKit
attribute [local go_sem] Oper.semAt_some
def mD (l:List UInt8) (_:Int):List Nat:=mF (fun a b => !jf a&&jf b) l l.length
def CmdOkw (k:Int):Prop:=k=2
theorem DU (l:List UInt8) (k:Int) (hok:CmdOkw k) (hl:l.length≤900) (w:World) :
    Calls Tryz.prog 46 #[.string ⟨l.toArray⟩,.int .i64 k] w fun e w'=>∃gf lb,e=.returned (.func (.func gf) #[] lb)∧sB gf lb (mD l k) w'∧Below w.heap.size w w':=by
  obtain rfl:k=2:=hok;go_enter Tryz.func46,Tryz.ntmps46;go_wp2_with (
    (go_at_call 75;with_reducible refine(oR l hl _ _ NL _).mono ?_
     rintro e w2 ⟨gf,lb,rfl,h1,h2⟩;have H1:=aa (ac h1 h2);clear h1 h2))
  go_ret;exact⟨_,_,rfl,H1.out⟩
end Go.Proofs.YtcagfamdoaoimaaGreatDoor
namespace Go.Proofs.YtcagfamdoaoimaaGreatDoor
open Go.RowKit
attribute [local go_sem] Oper.semAt_some
def pM (l:List Int):List Value:=l.map fun i=>Value.int .i64 i
theorem JB (l:List Int):(pM l).length=l.length:=by simp[pM]
theorem l6 {l:List Int} {k:Nat} {x:Int} (h:l[k]? = some x):(pM l)[k]? = some (.int .i64 x):=by
  unfold pM;rw[bc,h];rfl
theorem xh (R:List Int) (B g cap n:Nat) (w:World) (hn:n=R.length) (h2:2≤n) (hr:R.Pairwise (· < ·)) (ho:w.ownsRow B 3 1 (.slice (some ⟨g,0,none⟩) n cap) n (pM R)) :
    Calls Tryz.prog 47 #[.slice (some ⟨g,0,none⟩) n cap] w fun e w'=>e=.returned (.slice (some ⟨g,0,none⟩) n cap)∧∃m,w'=w.drewN m:=by
  have hcap:=gM ho;unfold maxLen at hcap;have H:=aa (ac hr ho);have HN:=aa hn;have t0:decide ((n:Int)<2)=false:=by simp;omega
  clear hr ho hn;go_enter Tryz.func47,Tryz.ntmps47;go_wp2;go_loopw [3] (fun i wr=>∃k m:Nat,1≤k∧k≤n∧i=.int .i64 k∧wr=w.drewN m) (fun i _=>n-(intOf i).toNat)
  case atStart=>exact⟨1,0,au _,by omega,rfl,rfl⟩
  case round=>
    obtain⟨k,m,hk1,hk2,rfl,rfl⟩:=hrel;by_cases hlt:k<n
    ·obtain⟨j,rfl⟩:∃j,k=j+1:=⟨k-1,by omega⟩;obtain⟨x,hx⟩:∃x,R[j]? = some x:=⟨_,ax (by have:=HN.out;omega)⟩;obtain⟨y,hy⟩:∃y,R[j+1]? = some y:=⟨_,ax (by have:=HN.out;omega)⟩;have c1:w.cell? ⟨g,j,none⟩=some (.int .i64 x):=dW H.out.2 _ _ (l6 hx);have c2:w.cell? ⟨g,j+1,none⟩=some (.int .i64 y):=dW H.out.2 _ _ (l6 hy);have hlt2:x<y:=by
       obtain⟨p1,p2⟩:=ay.1 hx;obtain⟨p3,p4⟩:=ay.1 hy;rw[←p2,←p4];exact bN.1 H.out.1 j (j+1) p1 p3 (by omega)
     have t1:(y==x)=false:=aJ (by omega);have u1:(j:Int)+1<(n:Int):=by omega
     have u2:(0:Int)≤(j:Int):=by omega
     have u3:(j:Int)<(n:Int):=by omega
     have u4:(0:Int)≤(j:Int)+1:=by omega
     have v2:IntKind.i64.wrap (j:Int)=(j:Int):=aS _ (by omega);have v1:IntKind.i64.wrap ((j:Int)+1-1)=(j:Int):=by rw[Int.add_sub_cancel];exact aS _ (by omega)
     clear hx hy hlt2;go_wp2_with fail;go_quiet (fail);go_wp2_with fail;exact⟨⟨j+1+1,_,by omega,by omega,by go_num,rfl⟩,by simp[intOf];omega⟩
    ·obtain rfl:k=n:=by omega
     go_wp2;go_ret;exact⟨rfl,_,rfl⟩
theorem zD (a:Int) (r:List Int) (B g cap t:Nat) (w:World) (hn:t=r.length) (hr:(a::r).Pairwise (· < ·)) (ho:w.ownsRow B 3 1 (.slice (some ⟨g,0,none⟩) (t+2) cap) (t+2) (pM (a::a::r))) :
    Calls Tryz.prog 47 #[.slice (some ⟨g,0,none⟩) ((t+2:Nat)) cap] w fun e w'=>e=.returned (.slice (some ⟨g,0,none⟩) ((t+1:Nat)) cap)∧w'.ownsRow B 3 1 (.slice (some ⟨g,0,none⟩) (t+1) cap) (t+1) (pM (a::r))∧Below B w w':=by
  have hcap:=gM ho;unfold maxLen at hcap;have H:=aa (ac hr (ac ho hn));have t0:decide (((t+2:Nat):Int)<2)=false:=by simp;omega
  have c0:w.cell? ⟨g,0,none⟩=some (.int .i64 a):=dW ho _ _ rfl;have c1:w.cell? ⟨g,1,none⟩=some (.int .i64 a):=dW ho _ _ rfl;have u0:((1:Int))<((t+2:Nat):Int):=by omega
  have u00:((0:Int))<((t+2:Nat):Int):=by omega
  clear hr ho hn;go_enter Tryz.func47,Tryz.ntmps47;go_wp2;go_loopw [3] (fun i wr=>i=.int .i64 1∧wr=w) (fun _ _=>0)
  case atStart=>exact⟨rfl,rfl⟩
  case round=>
    obtain⟨rfl,hw⟩:=hrel;obtain rfl:=hw.symm;go_wp2_with fail;go_quiet (fail);go_wp2_with fail;go_loopw [3,5] (fun s3 s5 wr=>∃(q:Nat) (Z:List Int),1≤q∧q≤t+1∧s3=.int .i64 q∧s5=.int .i64 q∧wr.ownsRow B 3 1 (.slice (some ⟨g,0,none⟩) (t+2) cap) (t+2) (pM Z)∧Z.length=t+2∧(∀p,Z[p]? = if p<q then (a::r)[p]? else (a::a::r)[p]?)∧Below B w wr) (fun s3 s5 _=>t+1-(intOf s5).toNat)
    case atStart=>
      refine⟨1,a::a::r,au _,by omega,rfl,rfl,H.out.2.1,by have:=H.out.2.2;simp;omega,fun p=>?_,dN (aC _ _) _⟩;by_cases hp:p<1
      ·obtain rfl:p=0:=by omega
       rfl
      ·rw[aB hp]
    case round=>
      obtain⟨q,Z,hq1,hq2,rfl,rfl,ho,hZ,hp,hb⟩:=hrel;by_cases hlt:q<t+1
      ·obtain⟨j,rfl⟩:∃j,q=j+1:=⟨q-1,by omega⟩;have hn:=H.out.2.2;obtain⟨x,hx⟩:∃x,r[j]? = some x:=⟨_,ax (by omega)⟩;obtain⟨y,hy⟩:∃y,(a::r)[j]? = some y:=⟨_,ax (by simp;omega)⟩;have hlt2:y<x:=by
         obtain⟨p1,p2⟩:=ay.1 hy;obtain⟨p3,p4⟩:=ay.1 hx;rw[←p2,←p4];exact bN.1 H.out.1 j (j+1) p1 (by simp;omega) (by omega)
       have t1:(x != y)=true:=by simp;omega
       have z1:Z[j+1]? = some y:=by rw[hp,aB (by omega)];exact hy
       have z2:Z[j+2]? = some x:=by rw[hp,aB (by omega)];exact hx
       have c1:wr.cell? ⟨g,1+j,none⟩=some (.int .i64 y):=by rw[Nat.add_comm];exact dW ho _ _ (l6 z1)
       have c2:wr.cell? ⟨g,1+(j+1),none⟩=some (.int .i64 x):=by rw[Nat.add_comm];exact dW ho _ _ (l6 z2)
       have c3:wr.cell? ⟨g,j+1,none⟩=some (.int .i64 y):=dW ho _ _ (l6 z1);have f1:=gC ho (j+1);have u1:(j:Int)+1<((t+1:Nat):Int):=by omega
       have u2:(0:Int)≤(j:Int):=by omega
       have u3:(j:Int)<((t+1:Nat):Int):=by omega
       have u4:(0:Int)≤(j:Int)+1:=by omega
       have u5:(j:Int)+1<((t+2:Nat):Int):=by omega
       have v1:IntKind.i64.wrap ((j:Int)+1-1)=(j:Int):=by rw[Int.add_sub_cancel];exact aS _ (by omega)
       have v2:IntKind.i64.wrap (j:Int)=(j:Int):=aS _ (by omega);have hown:∀m,((wr.drewN m).setCell ⟨g,j+1,none⟩ (.int .i64 x)).ownsRow B 3 1 (.slice (some ⟨g,0,none⟩) (t+2) cap) (t+2) (pM (Z.set (j+1) x)):=fun m=>by
         have h:=mP (w:=wr.drewN m) ho (j+1) (.int .i64 x);unfold pM at h ⊢
         rwa [List.map_set]
       have hbb:∀m,Below B w ((wr.drewN m).setCell ⟨g,j+1,none⟩ (.int .i64 x)):=fun m=>(dN hb m).setCell hcap.2.2.2.1 _
       have hp2:∀p,(Z.set (j+1) x)[p]? = if p<j+1+1 then (a::r)[p]? else (a::a::r)[p]? := fun p=>by
         rw[List.getElem?_set,hp];by_cases e:j+1=p
         ·subst e;rw[aD rfl,aD (by omega),aD (by omega)];exact hx.symm
         ·rw[aB e];by_cases h:p<j+1
          ·rw[aD h,aD (by omega)]
          ·rw[aB h,aB (by omega)]
       have HZ:=aa (ac hown (ac hbb hp2));clear ho hb hp hx hy hlt2 z1 z2 hown hbb hp2 hn;go_wp2_with fail;go_quiet (fail);go_wp2_with fail;exact⟨⟨j+1+1,_,by omega,by omega,by go_num,by go_num,HZ.out.1 _,by simp[hZ],HZ.out.2.2,HZ.out.2.1 _⟩,by simp[intOf];omega⟩
      ·obtain rfl:q=t+1:=by omega
       have hcl:∀ty c',(Builtin.clear_ #[35] ty #[.slice (some ⟨g,t+1,none⟩) 1 c']).run Tryz.prog wr=.ok (.tuple #[]) (wr.setCells g (t+1) (List.replicate 1 (.int .i64 0))):=
         fun ty c'=>Lib.run_clear_slice wr _ 3 ty (.int .i64 0) rfl (fun w=>rfl) rfl rfl g (t+1) 1 c' (by omega) (fun j hj=>by rw[show t+1+j=t+1 by omega,dW ho (t+1) _ (l6 (ax (by omega)))];rfl) (fun j hj=>gC ho _)
       have HZ:=aa (ac ho (ac hb hp));clear ho hb hp;go_wp2;go_ret;refine⟨rfl,?_,HZ.out.2.1.setCell hcap.2.2.2.1 _⟩;have h:=mP HZ.out.1 (t+1) (.int .i64 0);have hn:=H.out.2.2;have e:Z.set (t+1) 0=(a::r)++[0]:=by
         refine List.ext_getElem? fun p=>?_
         rw[List.getElem?_set,HZ.out.2.2];by_cases h1:t+1=p
         ·subst h1;rw[aD rfl,aD (by omega),hn,aX (by simp)];simp
         ·rw[aB h1];by_cases h2:p<t+1
          ·rw[aD h2,aW (by simp;omega)]
          ·rw[aB h2,bY (by simp;omega),bY (by simp;omega)]
       have e2:(pM Z).set (t+1) (.int .i64 0)=pM (a::r)++[.int .i64 0]:=by
         have:=congrArg pM e
         unfold pM at this ⊢;rw[List.map_set,cw] at this;exact this
       rw[e2] at h;exact Go.ownsRow_pop (by rw[JB];simp;omega) h
end Go.Proofs.YtcagfamdoaoimaaGreatDoor
namespace Go.Proofs.YtcagfamdoaoimaaGreatDoor
def kC:List Int→List Int
  | []=>[]
  | a::r=>match kC r with
    | []=>[a]
    | b::s=>if a=b then b::s else a::b::s
def gU (B:List Int) (n:Int):List Int:=kC (0::B++[n])
theorem vU:∀(l:List Int) (a:Int),∃s,kC (a::l)=a::s
  | [],a=>⟨[],rfl⟩
  | b::l,a=>by
    obtain⟨s,h⟩:=vU l b;show ∃s',(match kC (b::l) with|[]=>[a]|c::s=>if a=c then c::s else a::c::s)=a::s';rw[h];simp only;by_cases e:a=b
    ·rw[aD e,e];exact⟨s,rfl⟩
    ·rw[aB e];exact⟨b::s,rfl⟩
theorem uF:∀(l:List Int) (x:Int),x∈kC l→x∈l
  | [],x,h=>h
  | a::l,x,h=>by
    have ih:=uF l x;unfold kC at h
    cases hc:kC l with
    | nil=>rw[hc] at h;simp at h;simp[h]
    | cons b s=>
      rw[hc] at h ih;simp only at h;by_cases e:a=b
      ·rw[aD e] at h;exact bG _ (ih h)
      ·rw[aB e] at h;rcases br.1 h with h|h
       ·simp[h]
       ·exact bG _ (ih h)
theorem vS:∀(l:List Int),l.Pairwise (· ≤ ·)→(kC l).Pairwise (· < ·)
  | [],_=>.nil
  | a::l,h=>by
    rw[cP] at h;have ih:=vS l h.2;unfold kC
    cases hc:kC l with
    | nil=>simp
    | cons b s=>
      rw[hc] at ih;simp only;by_cases e:a=b
      ·rw[aD e];exact ih
      ·rw[aB e,cP];refine⟨fun x hx=>?_,ih⟩;have hb:=h.1 b (uF l b (by rw[hc];simp));rcases br.1 hx with rfl|hx
       ·omega
       ·have:=(cP.1 ih).1 x hx;omega
theorem vT:∀(l:List Int) (z:Int),(kC (l++[z])).getLast? = some z
  | [],z=>rfl
  | a::l,z=>by
    have ih:=vT l z;show (match kC (l++[z]) with|[]=>[a]|b::s=>if a=b then b::s else a::b::s).getLast? = some z
    cases hc:kC (l++[z]) with
    | nil=>rw[hc] at ih;simp at ih
    | cons b s=>
      rw[hc] at ih;simp only;by_cases e:a=b
      ·rw[aD e];exact ih
      ·rw[aB e,List.getLast?_cons_cons];exact ih
structure KS (B:List Int) (n:Int):Prop where
  rise:B.Pairwise (· < ·)
  rng:∀x∈B,0≤x∧x<n
theorem Em {B:List Int} {n:Int} (h:KS B n) (hn:0≤n):(gU B n).Pairwise (· < ·)∧(∃s,gU B n=0::s)∧(gU B n).getLast? = some n:=by
  refine⟨vS _ ?_,vU _ 0,vT (0::B) n⟩;rw[bu,cP];refine⟨fun x hx=>?_,?_⟩
  ·rcases aZ.1 hx with h1|h1
   ·exact(h.rng x h1).1
   ·rw[cE.1 h1];exact hn
  ·rw[dx];refine⟨h.rise.imp fun h=>Int.le_of_lt h,by simp,fun x hx y hy=>?_⟩;rw[cE.1 hy];exact Int.le_of_lt (h.rng x hx).2
def sj (n at_:Int):Int:=min (max at_ 0) n
def pE (S:List Int) (n a:Int):Int:=match S.find? (fun x=>decide (a<x)) with|some x=>x|none=>n
def sJ (S:List Int) (a:Int):Int:=match (S.takeWhile fun x=>decide (x<a)).getLast? with|some x=>x|none=>0
theorem fwd_next {S:List Int} (h:S.Pairwise (· < ·)) (n:Int) {i:Nat} {x y:Int} (hx:S[i]? = some x) (hy:S[i+1]? = some y):pE S n x=y:=by
  unfold pE;have e:S.find? (fun z=>decide (x<z))=some y:=by
    rw[List.find?_eq_some_iff_getElem];obtain⟨h1,h2⟩:=ay.1 hy;obtain⟨h3,h4⟩:=ay.1 hx;refine⟨aG ?_,i+1,h1,h2,fun j hj=>?_⟩
    ·rw[←h2,←h4];exact bN.1 h i (i+1) h3 h1 (by omega)
    ·have:S[j]'(by omega)≤x:=by
       rcases Nat.lt_or_eq_of_le (Nat.lt_succ_iff.1 hj) with hj2|hj2
       ·rw[←h4];exact Int.le_of_lt (bN.1 h j i (by omega) h3 hj2)
       ·subst hj2;rw[h4];exact Int.le_refl _
     simp;omega
  rw[e]
theorem takeWhile_at:∀{S:List Int} (h:S.Pairwise (· < ·)) {i:Nat} {y:Int} (hy:S[i]? = some y),S.takeWhile (fun x=>decide (x<y))=S.take i
  | [],_,i,y,hy=>by simp at hy
  | a::S,h,0,y,hy=>by
    have e:a=y:=by simpa using hy
    subst e;simp
  | a::S,h,i+1,y,hy=>by
    rw[cP] at h;have hy2:S[i]? = some y:=by simpa using hy
    have hlt:=h.1 y (aO hy2);rw[cS,aD (by simpa using hlt),takeWhile_at h.2 hy2];rfl
theorem bck_prev {S:List Int} (h:S.Pairwise (· < ·)) {i:Nat} {x y:Int} (hx:S[i]? = some x) (hy:S[i+1]? = some y):sJ S y=x:=by
  unfold sJ;rw[takeWhile_at h hy,List.take_add_one,hx];simp
end Go.Proofs.YtcagfamdoaoimaaGreatDoor
namespace Go.Proofs.YtcagfamdoaoimaaGreatDoor
open Go.RowKit
attribute [local go_sem] Oper.semAt_some
def jy (l:List UInt8) (k:Int):List Int:=(mD l k).map fun (n:Nat)=>(n:Int)
theorem JF (l:List Nat):xD l=pM (l.map fun (n:Nat)=>(n:Int)):=by simp[xD,pM]
theorem FV (l:List Int):∀u∈pM l,u.oneCell'=true:=by
  intro u hu;obtain⟨x,_,rfl⟩:=bX.1 hu;rfl
theorem rN:∀{l:List Int},l.Pairwise (· < ·)→kC l=l
  | [],_=>rfl
  | a::l,h=>by
    rw[cP] at h;unfold kC;rw[rN h.2]
    cases l with
    | nil=>rfl
    | cons b s=>
      have:=h.1 b (by simp)
      simp only;rw[aB (by omega)]
def If (R:List Int):Prop:=(R.Pairwise (· < ·)∧2≤R.length)∨∃a r,R=a::a::r∧(a::r).Pairwise (· < ·)
theorem EN {B:List Int} {n:Int} (h:KS B n):(B++[n]).Pairwise (· < ·):=by
  rw[dx];refine⟨h.rise,by simp,fun x hx y hy=>?_⟩;rw[cE.1 hy]
  exact(h.rng x hx).2
theorem Ac {B:List Int} {n:Int} (h:KS B n) (hn:0≤n):If (0::B++[n]):=by
  have h1:=EN h;have h2:∀x∈B++[n],0≤x:=fun x hx=>by
    rcases aZ.1 hx with h3|h3
    ·exact(h.rng x h3).1
    ·rw[cE.1 h3];exact hn
  rw[bu]
  cases e:B++[n] with
  | nil=>simp at e
  | cons y s=>
    rw[e] at h1 h2;by_cases h0:y=0
    ·subst h0;exact .inr ⟨0,s,rfl,h1⟩
    ·refine .inl ⟨?_,by simp⟩;rw[cP];refine⟨fun x hx=>?_,h1⟩
     have:=h2 y (by simp)
     rcases br.1 hx with rfl|hx
     ·omega
     ·have:=(cP.1 h1).1 x hx;omega
theorem DJ (R:List Int) (hR:If R) (B:Nat) (v:Value) (w:World) (hB:B≤w.heap.size) (ho:w.ownsRow B 3 1 v R.length (pM R)) :
    Calls Tryz.prog 47 #[v] w fun e w'=>∃v',e=.returned v'∧w'.ownsRow B 3 1 v' (kC R).length (pM (kC R))∧Below B w w':=by
  obtain⟨A,n,c,rfl⟩:=dR ho;obtain rfl:=ei ho;rcases hR with ⟨h1,h2⟩|⟨a,r,rfl,h1⟩
  ·obtain⟨g,rfl⟩:=jb ho (by omega);rw[rN h1];refine(xh R B g c R.length w rfl h2 h1 ho).mono ?_;rintro e w' ⟨rfl,m,rfl⟩;exact⟨_,rfl,ho,dN (aC _ _) _⟩
  ·obtain⟨g,rfl⟩:=jb ho (by simp);have e:kC (a::a::r)=a::r:=by
     unfold kC;rw[rN h1];simp
   rw[e];refine(zD a r B g c r.length w rfl h1 ho).mono ?_;rintro e w' ⟨rfl,h2,h3⟩;exact⟨_,rfl,h2,h3⟩
theorem tp (l:List UInt8) (k:Int) (hok:CmdOkw k) (hB:KS (jy l k) (l.length:Int)) (hn:(mD l k).length≤50000) (hl:l.length≤900) (w:World) :
    Calls Tryz.prog 19 #[.string ⟨l.toArray⟩,.int .i64 k] w fun e w'=>∃v,e=.returned v∧w'.ownsRow w.heap.size 3 1 v (gU (jy l k) (l.length:Int)).length (pM (gU (jy l k) (l.length:Int)))∧Below w.heap.size w w':=by
  obtain⟨i0,hi,hz0,hz1,hz2⟩:=cD Tryz.infoInt29;have c1:=fun W=>DU l k hok hl W
  have c2:=fun gf lb W2 hI=>uE gf lb (mD l k) W2 (by omega) hI
  have c3:=fun (v:Value) W hB' ho=>DJ _ (Ac hB (by omega)) w.heap.size v W hB' ho
  have e1:(jy l k).length=(mD l k).length:=by unfold jy;simp
  unfold gU;rw[JF] at c2;rw[show (mD l k).map (fun (n:Nat)=>(n:Int))=jy l k from rfl] at c2;rw[←e1] at c2 hn;obtain⟨I,hI⟩:∃I,I=jy l k:=⟨_,rfl⟩;rw[←hI] at c2 c3 hn;rw[←hI];have e2:(0::I++[(l.length:Int)]).length=1+I.length+1:=by simp;omega
  have e3:pM (0::I++[(l.length:Int)])=([.int .i64 0]++pM I)++pM [(l.length:Int)]:=by simp[pM]
  rw[e2,e3] at c3;have H:=aa (ac c1 (ac c2 c3));clear c1 c2 c3 hI hB hok e1 e2 e3;go_enter Tryz.func19,Tryz.ntmps19;have hb0:Below w.heap.size w (w.alloc (.cells #[.int .i64 0] 3)):=(aC _ w).alloc (au _) _;have ho0:(w.alloc (.cells #[.int .i64 0] 3)).ownsRow w.heap.size 3 1 (.slice (some ⟨w.heap.size,0,none⟩) 1 1) 1 [.int .i64 0]:=World.ownsRow_lit w #[.int .i64 0] 1 (au _) (by unfold maxLen;omega) rfl;have HW:=aa (ac hb0 ho0);clear hb0 ho0
  go_wp2_with (first
    | (go_at_call 46;refine(H.out.1 _).mono ?_;rintro e w2 ⟨gf,lb,rfl,h1,h2⟩;have H1:=aa (ac h1 h2);clear h1 h2)
    | (go_at_call 45;refine(H.out.2.1 _ _ _ H1.out.1).mono ?_;rintro e w3 ⟨v3,rfl,h1,h2⟩;obtain⟨A3,n3,c3,rfl⟩:=dR h1;obtain rfl:=ei h1;have hsz:=H1.out.2.size;have hb3:=H1.out.2.trans (h2.mono hsz);have hr3:=Rd.of_own h1;have ho3:=dS HW.out.2 hb3;have hsz3:w.heap.size+1≤w3.heap.size:=by have:=hb3.size;rw[aV] at this;exact this
       have H3:=aa (ac ho3 (ac hr3 (HW.out.1.trans (hb3.mono (by rw[aV];omega)))));clear h1 h2 hb3 hr3 ho3)
    | (at_builtin
       refine eD rfl (.tmp 6) (.tmp 10) 35 rfl w.heap.size 3 i0 _ 1 8 Tryz.underlying35 hi hz0 hz1 hz2 rfl (by decide) (.slice (some ⟨w.heap.size,0,none⟩) 1 1) 1 [.int .i64 0] rfl H3.out.1 (.slice A3 I.length c3) I.length w3.heap.size (pM I) rfl H3.out.2.1 (FV I) (by unfold maxLen;omega) (by omega) (by omega) ?_;intro v4 w4 hown4 hg4 hv4;obtain⟨A4,n4,c4,rfl⟩:=dR hown4;obtain rfl:=ei hown4;have hb4:Below w.heap.size w w4:=H3.out.2.2.grown hg4 (by omega) (by intro k hk;simp[Value.ownBlock] at hk;omega);have hsz4:=hb4.size;have H4:=aa (ac hown4 hb4);clear hown4 hg4 hv4 hb4)
    | (at_builtin
       refine eD rfl (.tmp 12) (.tmp 15) 35 rfl w.heap.size 3 i0 _ 1 8 Tryz.underlying35 hi hz0 hz1 hz2 rfl (by decide) (.slice A4 (1+I.length) c4) (1+I.length) ([.int .i64 0]++pM I) rfl (H4.out.1.alloc _) (.slice (some ⟨w4.heap.size,0,none⟩) 1 1) 1 (w4.heap.size+1) (pM [(l.length:Int)]) rfl (fQ w4 (pM [(l.length:Int)]) 3 1 1 rfl (by omega)) (FV _) (by unfold maxLen;omega) (by omega) (by rw[aV];omega) ?_;intro v5 w5 hown5 hg5 hv5;have hb5:Below w.heap.size w w5:=(H4.out.2.alloc hsz4 _).grown hg5 (by rw[aV];omega) (fun j hj=>(H4.out.1.lt j hj).1);have hsz5:=hb5.size;have H5:=aa (ac hown5 hb5);clear hown5 hg5 hv5 hb5)
    | (go_at_call 47;refine(H.out.2.2 _ _ hsz5 H5.out.1).mono ?_;rintro e w6 ⟨v6,rfl,h1,h2⟩;have H6:=aa (ac h1 h2);clear h1 h2))
  go_ret;exact⟨_,rfl,H6.out.1,H5.out.2.trans H6.out.2⟩
end Go.Proofs.YtcagfamdoaoimaaGreatDoor
namespace Go.Proofs.YtcagfamdoaoimaaGreatDoor
open Go.RowKit
attribute [local go_sem] Oper.semAt_some
theorem tq (l:List UInt8) (a:Int) (w:World) :
    Calls Tryz.prog 53 #[.string ⟨l.toArray⟩,.int .i64 a] w fun e w'=>e=.returned (.int .i64 (sj (l.length:Int) a))∧w'=w:=by
  unfold sj;by_cases h1:a<0
  ·have e1:max a 0=0:=by omega
   have e2:min (0:Int) (l.length:Int)=0:=by omega
   rw[e1,e2];by_cases h2:(l.length:Int)<0
   ·omega
   ·by_cases h3:(0:Int)<(l.length:Int);all_goals (
      go_enter Tryz.func53,Tryz.ntmps53;go_wp2;go_ret;refine⟨?_,rfl⟩;try simp only[Ending.returned.injEq,Value.int.injEq,true_and]
      try omega
      try rfl)
  ·have e1:max a 0=a:=by omega
   rw[e1];by_cases h2:a<(l.length:Int)
   ·have e2:min a (l.length:Int)=a:=by omega
    rw[e2];by_cases h3:(0:Int)<a;all_goals (
      go_enter Tryz.func53,Tryz.ntmps53;go_wp2;go_ret;refine⟨?_,rfl⟩;try simp only[Ending.returned.injEq,Value.int.injEq,true_and]
      try omega
      try rfl)
   ·have e2:min a (l.length:Int)=(l.length:Int):=by omega
    rw[e2];by_cases h3:(0:Int)<a;all_goals (
      go_enter Tryz.func53,Tryz.ntmps53;go_wp2;go_ret;refine⟨?_,rfl⟩;try simp only[Ending.returned.injEq,Value.int.injEq,true_and]
      try omega
      try rfl)
theorem Dx (x:Int) (r:List Int) (n a:Int):pE (x::r) n a=if a<x then x else pE r n a:=by
  unfold pE;rw[List.find?_cons];by_cases h:a<x
  ·rw[aD h,aG h]
  ·rw[aB h,aL h]
theorem CB {S:List Int} {i:Nat} {x:Int} (h:S[i]? = some x):S.drop i=x::S.drop (i+1):=by
  obtain⟨h1,h2⟩:=ay.1 h;rw[cV h1,h2]
theorem zJ:∀l:List Int,(kC l).length≤l.length
  | []=>au _
  | a::l=>by
    have h:=zJ l;unfold kC
    cases hc:kC l with
    | nil=>simp
    | cons b s=>
      rw[hc] at h;simp only;split
      ·simp at h ⊢;omega
      ·simp at h ⊢;omega
structure uN (l:List UInt8) (k:Int):Prop where
  c:CmdOkw k
  b:KS (jy l k) (l.length:Int)
  n:(mD l k).length≤50000
  l:l.length≤900
theorem uN.len {l:List UInt8} {k:Int} (h:uN l k):(gU (jy l k) (l.length:Int)).length≤60000:=by
  have h1:=zJ (0::jy l k++[(l.length:Int)]);have h2:=h.n;have h3:(jy l k).length=(mD l k).length:=by unfold jy;simp
  unfold gU;simp only[aH,aP,bI] at h1;omega
theorem rV (l:List UInt8) (a k:Int) (hk:uN l k) (w:World) :
    Calls Tryz.prog 23 #[.string ⟨l.toArray⟩,.int .i64 a,.int .i64 k] w fun e w'=>e=.returned (.int .i64 (pE (gU (jy l k) (l.length:Int)) (l.length:Int) (sj (l.length:Int) a)))∧Below w.heap.size w w':=by
  have hc:=fun W=>tp l k hk.c hk.b hk.n hk.l W
  have hS:=hk.len;generalize gU (jy l k) (l.length:Int)=S at *;have hi:=fun W=>tq l a W
  generalize sj (l.length:Int) a=m at *;have H:=aa (ac hi hc);clear hi hc hk;go_enter Tryz.func23,Tryz.ntmps23;go_wp2_with fail;refine wp_scope_straight ?_;go_wp2_with (
    (go_at_call 53;refine(H.out.1 _).mono ?_;rintro e w2 ⟨rfl,rfl⟩))
  refine wp_label ?_;go_wp2_with (
    (go_at_call 19;refine(H.out.2 _).mono ?_;rintro e w3 ⟨v3,rfl,h1,h2⟩;obtain⟨A3,n3,c3,rfl⟩:=dR h1;obtain rfl:=ei h1;have H3:=aa (ac h1 h2);clear h1 h2))
  go_loopw [7,19] (fun t i wr=>∃q:Nat,q≤S.length∧i=.int .i64 q∧t=.int .i64 (l.length:Int)∧pE (S.drop q) (l.length:Int) m=pE S (l.length:Int) m∧wr=w3) (fun t i _=>S.length-(intOf i).toNat)
  case atStart=>exact⟨0,bv _,rfl,rfl,rfl,rfl⟩
  case round=>
    obtain⟨q,hq,rfl,rfl,hf,hw⟩:=hrel;obtain rfl:=hw.symm;by_cases hlt:q<S.length
    ·obtain⟨x,hx⟩:∃x,S[q]? = some x:=⟨_,ax hlt⟩;obtain⟨g,rfl⟩:=jb H3.out.1 (by omega);have c0:=dW H3.out.1 _ _ (l6 hx);rw[CB hx,Dx] at hf;have u1:(q:Int)<(S.length:Int):=by omega
     have u2:(0:Int)≤(q:Int):=by omega
     clear hx;by_cases hm:m<x
     ·rw[aD hm] at hf;have t1:decide (m<x)=true:=by simpa using hm
      have HF:=aa hf;clear hf hm;go_wp2_with fail;go_ret;exact⟨by rw[←HF.out];rfl,H3.out.2⟩
     ·rw[aB hm] at hf;have t1:decide (m<x)=false:=by simpa using hm
      have HF:=aa hf;clear hf hm;go_wp2_with fail;exact⟨⟨q+1,by omega,by go_num,rfl,HF.out,trivial⟩,by simp[intOf];omega⟩
    ·obtain rfl:q=S.length:=by omega
     rw[List.drop_length] at hf;have HF:=aa hf;clear hf;go_wp2_with fail;go_ret;exact⟨by rw[←HF.out];rfl,H3.out.2⟩
end Go.Proofs.YtcagfamdoaoimaaGreatDoor
namespace Go.Proofs.YtcagfamdoaoimaaGreatDoor
open Go.RowKit
attribute [local go_sem] Oper.semAt_some
def kidB (L:List Nd) (i k:Nat):Bool:=match L[k]? with|some x=>x.up==(i:Int)|none=>false
def kidK (L:List Nd) (i k:Nat):List Nat:=(List.range k).filter (kidB L i)
theorem is_m (i n c:Nat) (A:Option Addr) (h:i<n) (hn:n≤100000) (w:World):Calls Tryz.prog 152 #[.slice A n c,.int .i64 (i:Int)] w fun e w'=>e=.returned (.bool true)∧w'=w:=by
  have u1:(i:Int)<(n:Int):=by omega
  have u2:(0:Int)≤(i:Int):=by omega
  go_enter Tryz.func152,Tryz.ntmps152;go_wp2;go_ret;exact⟨rfl,rfl⟩
theorem Kids_m (L:List Nd) (hL:L.length≤90000) (A:Option Addr) (c i:Nat) (hi:i<L.length) (w:World) (hR:Rd w w.heap.size 4 (.slice A L.length c) L.length (gQ L)) :
    Calls Tryz.prog 124 #[.slice A L.length c,.int .i64 (i:Int)] w fun e w'=>∃v,e=.returned v∧w'.ownsRow w.heap.size 3 1 v (kidK L i L.length).length (xD (kidK L i L.length))∧Below w.heap.size w w':=by
  obtain⟨i0,hi0,hz0,hz1,hz2⟩:=cD Tryz.infoInt29;have H:=aa (ac hR (fun W=>is_m i L.length c A hi (by omega) W));clear hR;go_enter Tryz.func124,Tryz.ntmps124;go_wp2_with (
    (go_at_call 152;refine(H.out.2 _).mono ?_;rintro e w2 ⟨rfl,h2⟩;obtain rfl:=h2.symm;have H2:=aa (aC w.heap.size w)))
  go_loopw [4,13] (fun o j wr=>∃k:Nat,k≤L.length∧j=.int .i64 k∧wr.ownsRow w.heap.size 3 1 o (kidK L i k).length (xD (kidK L i k))∧Below w.heap.size w wr) (fun o j _=>L.length-(intOf j).toNat)
  case atStart=>exact⟨0,bv _,rfl,cj _ _ _ _,H2.out⟩
  case round=>
    obtain⟨k,hk,rfl,ho,hb⟩:=hrel;by_cases hlt:k<L.length
    ·obtain⟨x,hx⟩:∃x,L[k]? = some x:=⟨_,ax hlt⟩;have hsz:=hb.size;obtain⟨g,o,rfl,hg,hc⟩:=iK jk (H.out.1.keep hb (au _)) hx rfl;obtain⟨K,hK⟩:∃K:Int,K=(x.kd:Int):=⟨_,rfl⟩;obtain⟨up,hup⟩:∃up:Int,up=x.up:=⟨_,rfl⟩;have z0:wr.cell? ⟨g,o+k*4,none⟩=some (.int .i64 K):=by rw[hK];exact hc 0 _ rfl
     have z1:wr.cell? ⟨g,o+k*4+1,none⟩=some (.int .i64 (x.fr:Int)):=hc 1 _ rfl;have z2:wr.cell? ⟨g,o+k*4+2,none⟩=some (.int .i64 (x.tt:Int)):=hc 2 _ rfl;have z3:wr.cell? ⟨g,o+k*4+3,none⟩=some (.int .i64 up):=by rw[hup];exact hc 3 _ rfl
     have u1:(k:Int)<(L.length:Int):=by omega
     have u2:(0:Int)≤(k:Int):=by omega
     have hsuc:=vL (kidB L i) k;have hkb:kidB L i k=(up==(i:Int)):=by unfold kidB;rw[hx,hup]
     have hlen:=zv (kidB L i) k;have hkk:(kidK L i k).length≤k:=hlen;obtain⟨A2,n2,c2,rfl⟩:=dR ho;obtain rfl:=ei ho;have HP:=aa (ac ho (ac hb hsuc));clear hc hx hK hup ho hb hsuc hlen
     cases ht:(up==(i:Int))
     case' false=>
       rw[ht] at hkb;have HB:=aa hkb;clear hkb;go_wp2_with fail;refine⟨⟨k+1,by omega,by go_num,?_,HP.out.2.1.alloc hsz _⟩,by simp[intOf];omega⟩;unfold kidK;rw[HP.out.2.2,aB (by rw[HB.out];decide),bz];exact HP.out.1.alloc _
     case' true=>
       rw[ht] at hkb;have HB:=aa hkb;clear hkb;go_upto_region 7 with fail
       refine ki fun W hbW hkW hsW=>?_
       have hoW:=dS HP.out.1 hbW;have hbw:=HP.out.2.1.trans (hbW.mono hsz);have HW:=aa (ac hoW hbw);have hszw:=hbw.size;clear hoW hbw hbW hkW hsW z0 z1 z2 z3
       go_wp2_with (first
         | (at_builtin
            refine eD rfl (.tmp 22) (.tmp 24) 35 rfl w.heap.size 3 i0 _ 1 8 Tryz.underlying35 hi0 hz0 hz1 hz2 rfl (by decide) (.slice A2 (kidK L i k).length c2) (kidK L i k).length (xD (kidK L i k)) rfl (HW.out.1.alloc _) (.slice (some ⟨W.heap.size,0,none⟩) 1 1) 1 (W.heap.size+1) (xD [k]) rfl (fQ W (xD [k]) 3 1 1 rfl (by omega)) (Ly _) (by unfold maxLen;omega) (by omega) (by rw[aV];omega) ?_;intro v6 w6 hown6 hg6 hv6;have hbel6:Below w.heap.size w w6:=(HW.out.2.alloc hszw _).grown hg6 (by rw[aV];omega) (fun j hj=>(HW.out.1.lt j hj).1);have H6:=aa (ac hown6 hbel6);clear hown6 hg6 hv6 hbel6))
       refine⟨⟨k+1,by omega,by go_num,?_,H6.out.2⟩,by simp[intOf];omega⟩;unfold kidK;rw[HP.out.2.2,aD HB.out];have h:=H6.out.1;rw[←Gr,show (kidK L i k).length+1=(kidK L i k++[k]).length by simp] at h;exact h
    ·obtain rfl:k=L.length:=by omega
     have HE:=aa (ac ho hb);clear ho hb;go_wp2_with fail;go_ret;exact⟨_,rfl,HE.out⟩
end Go.Proofs.YtcagfamdoaoimaaGreatDoor
namespace Go.Proofs.YtcagfamdoaoimaaGreatDoor
open Go.RowKit
attribute [local go_sem] Oper.semAt_some
def GT (k:Nat):UInt8:=if k=9 then 125 else if k=10 then 41 else if k=11 then 102 else if k=12∨k=13 then 103 else if k=14 then 122 else 0
theorem JV (k:Nat) (w:World):Calls Tryz.prog 88 #[.int .i64 (k:Int)] w fun e w'=>e=.returned (.int .u8 ((GT k).toNat:Int))∧w'=w:=by
  have key:k=9∨k=10∨k=11∨k=12∨k=13∨k=14∨(((k:Int)==9)=false∧((k:Int)==10)=false∧((k:Int)==11)=false∧((k:Int)==12)=false∧((k:Int)==13)=false∧((k:Int)==14)=false∧GT k=0):=by
    by_cases h1:k=9
    ·exact .inl h1
    by_cases h2:k=10
    ·exact .inr (.inl h2)
    by_cases h3:k=11
    ·exact .inr (.inr (.inl h3))
    by_cases h4:k=12
    ·exact .inr (.inr (.inr (.inl h4)))
    by_cases h5:k=13
    ·exact .inr (.inr (.inr (.inr (.inl h5))))
    by_cases h6:k=14
    ·exact .inr (.inr (.inr (.inr (.inr (.inl h6)))))
    ·exact .inr (.inr (.inr (.inr (.inr (.inr ⟨aJ (by omega),aJ (by omega),aJ (by omega),aJ (by omega),aJ (by omega),aJ (by omega),by unfold GT;simp[h1,h2,h3,h4,h5,h6]⟩)))))
  rcases key with rfl|rfl|rfl|rfl|rfl|rfl|⟨t1,t2,t3,t4,t5,t6,hE⟩
  all_goals (
    go_enter Tryz.func88,Tryz.ntmps88;go_wp2;go_ret)
  all_goals first
    | exact⟨rfl,rfl⟩
    | exact⟨by rw[hE];rfl,rfl⟩
def sgnAt (F:List Lf) (p:Nat):UInt8:=match F[p]? with|some y=>uS y|none=>0
def scanF (F:List Lf) (sg:UInt8) (fo:Int) (a e:Nat):Int:=(List.range' a (e-a)).foldl (fun fo p=>if (sgnAt F p==sg)=true then (p:Int) else fo) fo
theorem scanF_succ (F:List Lf) (sg:UInt8) (fo:Int) {a p:Nat} (h:a≤p):scanF F sg fo a (p+1)=if (sgnAt F p==sg)=true then (p:Int) else scanF F sg fo a p:=by
  unfold scanF;rw[show p+1-a=(p-a)+1 by omega,List.range'_1_concat,List.foldl_append,show a+(p-a)=p by omega];rfl
theorem scanF_nil (F:List Lf) (sg:UInt8) (fo:Int) {a e:Nat} (h:e≤a):scanF F sg fo a e=fo:=by
  unfold scanF;rw[show e-a=0 by omega];rfl
def ndAt (L:List Nd) (k:Nat):Nat×Nat:=match L[k]? with|some x=>(x.fr,x.tt)|none=>(0,0)
def segS (L:List Nd) (i:Nat) (x:Nd):List (Nat×Nat):=(kidK L i L.length).map (ndAt L)++[(x.tt,x.tt)]
def lastS (F:List Lf) (sg:UInt8) (s:Int×Nat) (G:List (Nat×Nat)):Int×Nat:=G.foldl (fun s g=>(scanF F sg s.1 s.2 g.1,g.2)) s
def lastL (F:List Lf) (L:List Nd) (i:Nat) (x:Nd):Int:=(lastS F (GT x.kd) (-1,x.fr) (segS L i x)).1
theorem lastS_take (F:List Lf) (sg:UInt8) (s:Int×Nat) {G:List (Nat×Nat)} {j:Nat} {g:Nat×Nat} (h:G[j]? = some g):lastS F sg s (G.take (j+1))=(scanF F sg (lastS F sg s (G.take j)).1 (lastS F sg s (G.take j)).2 g.1,g.2):=by
  unfold lastS;rw[List.take_add_one,h,List.foldl_append];rfl
structure FL (F:List Lf) (L:List Nd):Prop where
  fn:F.length≤900
  ln:L.length≤90000
  nd:∀x∈L,x.fr≤F.length∧x.tt≤F.length
  tx:∀y∈F,y.tx.length≤900
theorem lastk_m (F:List Lf) (L:List Nd) (hFL:FL F L) (A1 A2:Option Addr) (c1 c2 i:Nat) (x:Nd) (hx:L[i]? = some x) (w:World) (hF:Rd w w.heap.size 4 (.slice A1 F.length c1) F.length (iF F)) (hR:Rd w w.heap.size 4 (.slice A2 L.length c2) L.length (gQ L)) :
    Calls Tryz.prog 89 #[.slice A1 F.length c1,.slice A2 L.length c2,.int .i64 (i:Int)] w fun e w'=>e=.returned (.int .i64 (lastL F L i x))∧Below w.heap.size w w':=by
  obtain⟨i0,hi0,hz0,hz1,hz2⟩:=cD Tryz.infoInt29;have hil:=(ay.1 hx).1;have hK:=fun W (hR:Rd W W.heap.size 4 (.slice A2 L.length c2) L.length (gQ L))=>Kids_m L hFL.ln A2 c2 i hil W hR
  have hkl:(kidK L i L.length).length≤90000:=aA (zv _ _) hFL.ln;have hkm:∀k∈kidK L i L.length,k<L.length:=fun k hk=>by
    unfold kidK at hk;exact cI.1 (List.mem_filter.1 hk).1
  unfold lastL segS;obtain⟨K,hKe⟩:∃K,K=kidK L i L.length:=⟨_,rfl⟩;rw[←hKe] at hK hkl hkm ⊢;obtain⟨sg,hsg⟩:∃sg,sg=GT x.kd:=⟨_,rfl⟩;rw[←hsg];obtain⟨G,hG⟩:∃G,G=K.map (ndAt L)++[(x.tt,x.tt)]:=⟨_,rfl⟩;rw[←hG];have hE:=fun W=>JV x.kd W
  rw[←hsg] at hE;have hxm:=hFL.nd x (aO hx);obtain⟨g2,o2,rfl,hg2,hc2⟩:=iK jk hR hx rfl;have z0:w.cell? ⟨g2,o2+i*4,none⟩=some (.int .i64 (x.kd:Int)):=hc2 0 _ rfl;have z1:w.cell? ⟨g2,o2+i*4+1,none⟩=some (.int .i64 (x.fr:Int)):=hc2 1 _ rfl;have u1:(i:Int)<(L.length:Int):=by omega
  have u2:(0:Int)≤(i:Int):=by omega
  have H:=aa (ac hF (ac hR (ac hK (ac hE (ac hkm (ac hG (ac hx hFL)))))));have hf9:=hFL.fn;have hl9:=hFL.ln;clear hF hR hK hE hkm hG hx hc2 hKe hsg hFL;go_enter Tryz.func89,Tryz.ntmps89
  go_wp2_with (first
    | (go_at_call 88;refine(H.out.2.2.2.1 _).mono ?_;rintro e w2 ⟨rfl,h2⟩;obtain rfl:=h2.symm;clear h2)
    | (go_at_call 124;refine(H.out.2.2.1 _ H.out.2.1).mono ?_;rintro e w3 ⟨v3,rfl,h1,h2⟩;obtain⟨A3,n3,c3,rfl⟩:=dR h1;obtain rfl:=ei h1;have hsz3:=h2.size;have H3:=aa (ac h1 h2);clear h1 h2)
    | (at_builtin
       refine eD rfl (.tmp 27) (.tmp 28) 35 rfl w.heap.size 3 i0 _ 1 8 Tryz.underlying35 hi0 hz0 hz1 hz2 rfl (by decide) (.slice A3 K.length c3) K.length (xD K) rfl (H3.out.1.alloc _) (.slice (some ⟨w3.heap.size,0,none⟩) 1 1) 1 (w3.heap.size+1) [.int .i64 (-1)] rfl (fQ w3 [.int .i64 (-1)] 3 1 1 rfl (by omega)) (by simp[Value.oneCell']) (by unfold maxLen;omega) (by omega) (by rw[aV];omega) ?_;intro v4 w4 hown4 hg4 hv4;obtain⟨A4,n4,c4,rfl⟩:=dR hown4;obtain rfl:=ei hown4;obtain⟨g4,rfl⟩:=jb hown4 (by omega);have hb4:Below w.heap.size w w4:=(H3.out.2.alloc hsz3 _).grown hg4 (by rw[aV];omega) (fun j hj=>(H3.out.1.lt j hj).1);have hsz4:=hb4.size;have H4:=aa (ac hown4 hb4);clear hown4 hg4 hv4 hb4))
  go_loopw [8,9,31] (fun fo at_ j wr=>∃m:Nat,m≤K.length+1∧j=.int .i64 m∧fo=.int .i64 (lastS F sg (-1,x.fr) (G.take m)).1∧at_=.int .i64 ((lastS F sg (-1,x.fr) (G.take m)).2:Int)∧wr.ownsRow w.heap.size 3 1 (.slice (some ⟨g4,0,none⟩) (K.length+1) c4) (K.length+1) (xD K++[.int .i64 (-1)])∧Below w.heap.size w wr) (fun fo at_ j _=>K.length+1-(intOf j).toNat)
  case atStart=>exact⟨0,bv _,rfl,rfl,rfl,H4.out⟩
  case round=>
    obtain⟨m,hm,rfl,rfl,rfl,ho,hb⟩:=hrel;obtain⟨s,hs⟩:∃s,s=lastS F sg (-1,x.fr) (G.take m):=⟨_,rfl⟩;rw[←hs];obtain⟨f0,a0⟩:=s;have hsz:=hb.size;by_cases hlt:m<K.length+1
    ·have key:∃(kv:Int) (e nx:Nat),(xD K++[.int .i64 (-1)])[m]? = some (.int .i64 kv)∧G[m]? = some (e,nx)∧e≤F.length∧nx≤F.length∧((kv = -1∧e=x.tt∧nx=x.tt)∨(∃k:Nat,kv=(k:Int)∧k<L.length∧wr.cell? ⟨g2,o2+k*4+1,none⟩=some (.int .i64 (e:Int))∧wr.cell? ⟨g2,o2+k*4+2,none⟩=some (.int .i64 (nx:Int)))):=by
       obtain⟨hF,hR,hK,hE,hkm,hG,hx,hFL⟩:=H.out;have il:(xD K).length=K.length:=by simp[xD]
       rw[hG];by_cases h:m<K.length
       ·obtain⟨k,hk⟩:∃k,K[m]? = some k:=⟨_,ax h⟩;have hkl:=hkm k (aO hk);obtain⟨y,hy⟩:∃y,L[k]? = some y:=⟨_,ax hkl⟩;have hn:=hFL.nd y (aO hy);obtain⟨_,_,he,_,hc⟩:=iK jk (hR.keep hb (au _)) hy rfl
        cases he;refine⟨k,y.fr,y.tt,?_,?_,hn.1,hn.2,.inr ⟨k,rfl,hkl,hc 1 _ rfl,hc 2 _ rfl⟩⟩
        ·rw[aW (by omega)];unfold xD;rw[bc,hk];rfl
        ·rw[aW (by simpa using h),bc,hk];unfold ndAt;simp[hy]
       ·obtain rfl:m=K.length:=by omega
        refine⟨-1,x.tt,x.tt,?_,?_,hxm.2,hxm.2,.inl ⟨rfl,rfl,rfl⟩⟩
        ·rw[aX (by omega),il];simp
        ·rw[aX (by simp)];simp
     obtain⟨_,_,he0,_,hc0⟩:=iK jk (H.out.2.1.keep hb (au _)) H.out.2.2.2.2.2.2.1 rfl
     cases he0;obtain⟨tt,htt⟩:∃tt:Nat,tt=x.tt:=⟨_,rfl⟩;rw[←htt] at key hxm;have z2:wr.cell? ⟨g2,o2+i*4+2,none⟩=some (.int .i64 (tt:Int)):=by rw[htt];exact hc0 2 _ rfl
     obtain⟨kv,e,nx,hk1,hk2,hel,hnl,hway⟩:=key;have y0:=dW ho _ _ hk1;have htk:=lastS_take F sg (-1,x.fr) hk2;rw[←hs] at htk;have u5:(m:Int)<(K.length:Int)+1:=by omega
     have u6:(0:Int)≤(m:Int):=by omega
     have HB:=aa (ac ho (ac hb htk));have hway2:(kv = -1∧e=tt∧e=nx)∨(∃k:Nat,kv=(k:Int)∧(k:Int)<(L.length:Int)∧(0:Int)≤(k:Int)∧wr.cell? ⟨g2,o2+k*4+1,none⟩=some (.int .i64 (e:Int))∧wr.cell? ⟨g2,o2+k*4+2,none⟩=some (.int .i64 (nx:Int))):=by
       rcases hway with ⟨h1,h2,h3⟩|⟨k,h1,h2,h3,h4⟩
       ·exact .inl ⟨h1,by omega,by omega⟩
       ·exact .inr ⟨k,h1,by omega,by omega,h3,h4⟩
     clear hc0 hk1 hk2 hs ho hb htk z0 z1 htt hxm hway;rcases hway2 with ⟨rfl,rfl,rfl⟩|⟨k,rfl,u7,u8,z4,z5⟩
     case' inl=>
       go_wp2_with fail;go_quiet (fail);go_wp2_with fail
     case' inr=>
       go_wp2_with fail;go_quiet (fail);go_wp2_with fail;go_quiet (fail);go_wp2_with fail
     all_goals (
       clear y0;go_loopw [8,9] (fun fo at_ wx=>∃p:Nat,a0≤p∧(p≤e∨p=a0)∧at_=.int .i64 p∧fo=.int .i64 (scanF F sg f0 a0 p)∧wx.ownsRow w.heap.size 3 1 (.slice (some ⟨g4,0,none⟩) (K.length+1) c4) (K.length+1) (xD K++[.int .i64 (-1)])∧Below w.heap.size w wx) (fun fo at_ _=>e-(intOf at_).toNat)
       ·exact⟨a0,au _,.inr rfl,rfl,by rw[scanF_nil F sg f0 (au _)],HB.out.1,by first|exact dN HB.out.2.1 _|exact dN (dN HB.out.2.1 _) _⟩
       ·obtain⟨p,hp1,hp2,rfl,rfl,ho,hb⟩:=hrel;have hsz5:=hb.size;by_cases hpe:p<e
        ·obtain⟨y,hy⟩:∃y,F[p]? = some y:=⟨_,ax (by omega)⟩;obtain⟨g1,o1,rfl,_,hc1⟩:=iK (lay:=LJ) (fun _=>rfl) (H.out.1.keep hb (au _)) hy rfl;have q0:wr.cell? ⟨g1,o1+p*4,none⟩=some (.int .i64 y.kd):=hc1 0 _ rfl;have q1:wr.cell? ⟨g1,o1+p*4+1,none⟩=some (.string ⟨y.tx.toArray⟩):=hc1 1 _ rfl;have q2:wr.cell? ⟨g1,o1+p*4+2,none⟩=some (.int .i64 y.fr):=hc1 2 _ rfl;have q3:wr.cell? ⟨g1,o1+p*4+3,none⟩=some (.int .i64 y.to):=hc1 3 _ rfl;have u9:(p:Int)<(e:Int):=by omega
         have u10:(0:Int)≤(p:Int):=by omega
         have u11:(p:Int)<(F.length:Int):=by omega
         have hsc:=scanF_succ F sg f0 hp1;have hsa:sgnAt F p=uS y:=by unfold sgnAt;rw[hy]
         have hbe:=i7 (uS y) sg;rw[hsa,←hbe] at hsc;have hsi:=K6 y wr (by have:=H.out.2.2.2.2.2.2.2.tx y (aO hy);omega);have HS:=aa (ac ho (ac hb hsi));clear hc1 hy hsa hbe ho hb hsi
         cases ht:(((uS y).toNat:Int)==(sg.toNat:Int));all_goals (
           rw[ht] at hsc;have HT:=aa hsc;clear hsc;go_wp2_with (
             (go_at_call 125;refine HS.out.2.2.mono ?_;rintro e7 w7 ⟨rfl,hb7⟩;have H7:=aa hb7;clear hb7))
           refine⟨⟨p+1,by omega,.inl (by omega),by go_num,by rw[HT.out];rfl,dS HS.out.1 H7.out,HS.out.2.1.trans (H7.out.mono hsz5)⟩,by simp[intOf];omega⟩)
        ·have hfin:scanF F sg f0 a0 p=scanF F sg f0 a0 e:=by
           rcases hp2 with h|h
           ·rw[show p=e by omega]
           ·subst h;rw[scanF_nil F sg f0 (au _),scanF_nil F sg f0 (by omega)]
         have HE:=aa (ac ho (ac hb hfin));have u9:¬(p:Int)<(e:Int):=by omega
         clear ho hb hfin;go_wp2_with fail;refine⟨⟨m+1,by omega,by go_num,by rw[HB.out.2.2,HE.out.2.2],by rw[HB.out.2.2],HE.out.1,HE.out.2.1⟩,by simp[intOf];omega⟩)
    ·obtain rfl:m=K.length+1:=by omega
     have hGl:G.length=K.length+1:=by rw[H.out.2.2.2.2.2.1];simp
     rw[←hGl,dy] at hs;have HE:=aa (ac hb hs);clear hb ho hs hGl z0 z1;go_wp2_with fail;go_ret;exact⟨by rw[←HE.out.2];rfl,HE.out.1⟩
end Go.Proofs.YtcagfamdoaoimaaGreatDoor
namespace Go.Proofs.YtcagfamdoaoimaaGreatDoor
open Go.RowKit
attribute [local go_sem] Oper.semAt_some
abbrev L5 (x:Int×Int):Array Value:=#[.int .i64 x.1,.int .i64 x.2]
def YP (l':Nat) (N:List (Int×Int)) (n₀:Nat) (Xc:Nat→Prop) (J Jx:(Nat→Prop)→List (Int×Int)→World→Prop):Prop:=
  ∀X pre x W1,J X pre W1→pre++[x]<+:N→∀m,YieldAt Fence.wide m Tryz.prog l' (L5 x) W1 fun e W'=>
   (e=.returned (.bool true)∧J X (pre++[x]) W'∧eN n₀ Xc W1 W'∧∀k,X k→W'.heap[k]? = W1.heap[k]?)∨(e=.returned (.bool false)∧Jx X (pre++[x]) W'∧eN n₀ Xc W1 W'∧∀k,X k→W'.heap[k]? = W1.heap[k]?)
def Ku (x:Lf) (q:fh):List (Int×Int):=if (q.mode=12∨q.mode=13∨q.mode=14)∨q.op=true then [] else [(x.fr+q.fr,x.fr+q.to-1)]
def MM (x:Lf):List (Int×Int):=(eC x.tx).flatMap (Ku x)
theorem C8 (n l':Nat) (N:List (Int×Int)) (n₀:Nat) (Xc X:Nat→Prop) (J Jx:(Nat→Prop)→List (Int×Int)→World→Prop) (hF:kH J) (hY:YP l' N n₀ Xc J Jx) (x:Lf) (hl:x.tx.length≤900) (hx0:0≤x.fr) (hx1:x.fr≤1000000) (W:World) (pre:List (Int×Int))
    (hJ:pN J W W n₀ Xc X X pre) (hN:pre++MM x<+:N) :
    CallsIn Fence.wide n Tryz.prog 90 #[LI x,.func (.yield l') #[] #[]] W fun e W'=>
      (e=.returned (.bool true)∧∃X',pN J W W' n₀ Xc X X' (pre++MM x))∨(e=.returned (.bool false)∧∃X' ys,Jx X' ys W'):=by
  obtain⟨P,hP⟩:∃P,P=eC x.tx:=⟨_,rfl⟩;have hof:=fun W=>Nc x.tx W hl
  have hpl:P.length≤100000:=by rw[hP];have:=oz x.tx;omega
  have hq:MM x=P.flatMap (Ku x):=by rw[hP];rfl
  have hpt:∀q∈P,∃pf pt:Nat,q.fr=(pf:Int)∧q.to=(pt:Int)∧pf<pt∧pt≤900:=fun q hq=>by
    rw[hP] at hq;obtain⟨pf,pt,hp1,hp2,hp3,hp4,_⟩:=tP hq;exact⟨pf,pt,by omega,by omega,by omega,by omega⟩
  rw[←hP] at hof;rw[hq] at hN ⊢;have HC:=aa hof;have HK:=aa (ac hY (ac hJ (ac hN hpt)));clear hof hY hJ hN hpt hq hP;unfold LI;refine dk Tryz.func90 rfl trivial ?_ rfl;simp only[Tryz.ntmps90,bU,aP,bI,Nat.reduceAdd,Nat.reduceSub,bE,bF,bV,bJ,bT,bu];gi_wp2_with fail;refine wpIn_wide.2 (wp_scope_straight ((wpIn_wide (n:=n)).1 ?_));gi_wp2_with fail;refine wpIn_label ?_
  gi_wp2_with (first
    | (refine⟨trivial,fun h=>by simp[Fence.wide] at h,?_⟩;gi_at_call 115;refine(aU.2 (HC.out _)).mono ?_;rintro e w2 ⟨v2,rfl,ho,hb⟩;obtain⟨A2,n2,c2,rfl⟩:=dR ho;obtain rfl:=ei ho;have H2:=aa (ac ho hb);clear ho hb))
  obtain⟨W1,hW1⟩:∃W1,W1=W.alloc (.cells #[.int .i64 x.kd,.string ⟨x.tx.toArray⟩,.int .i64 x.fr,.int .i64 x.to] 29):=⟨_,rfl⟩;have hb1:Below W.heap.size W W1:=by rw[hW1];exact(aC _ _).alloc (au _) _
  have hk1:Bk W1 W.heap.size 29 #[.int .i64 x.kd,.string ⟨x.tx.toArray⟩,.int .i64 x.fr,.int .i64 x.to]:=by rw[hW1];exact Bk.new _ _ _
  have hs1:W1.heap.size=W.heap.size+1:=by rw[hW1];simp
  have h2:=H2.out;rw[←hW1] at h2;have hst:∃X2,pN J W w2 n₀ Xc X X2 pre∧Bk w2 W.heap.size 29 #[.int .i64 x.kd,.string ⟨x.tx.toArray⟩,.int .i64 x.fr,.int .i64 x.to]∧X2 W.heap.size∧w2.ownsRow 0 79 5 (.slice A2 P.length c2) P.length (fw P)∧∀k,(Value.slice A2 P.length c2).ownBlock=some k→X2 k:=by
    have d1:=HK.out.2.1.below hF hb1;exact⟨_,d1.below hF h2.2,hk1.below h2.2 hk1.lt,.inl (.inr ⟨au _,by omega⟩),fK h2.1 (bv _),fun k hk=>.inr (h2.1.lt k hk)⟩
  have HS:=aa hst;obtain⟨bx,hbx⟩:∃bx,bx=W.heap.size:=⟨_,rfl⟩;rw[←hbx] at HS ⊢;clear hst h2 hb1 hk1 hs1 hW1 H2 hbx;gi_loopw [11] (fun i wr=>∃(f:Nat) (X2:Nat→Prop),f≤P.length∧i=.int .i64 f∧pN J W wr n₀ Xc X X2 (pre++(P.take f).flatMap (Ku x))∧Bk wr bx 29 #[.int .i64 x.kd,.string ⟨x.tx.toArray⟩,.int .i64 x.fr,.int .i64 x.to]∧X2 bx∧wr.ownsRow 0 79 5 (.slice A2 P.length c2) P.length (fw P)∧∀k,(Value.slice A2 P.length c2).ownBlock=some k→X2 k) (fun i _=>P.length-(intOf i).toNat)
  case atStart=>
    obtain⟨X2,h⟩:=HS.out;exact⟨0,X2,bv _,rfl,by simpa using h.1,h.2⟩
  case round=>
    obtain⟨f,X2,hf,rfl,hd,hk,hxb,ho,hxo⟩:=hrel;by_cases hfl:f<P.length
    ·have v0:(f:Int)<(P.length:Int):=by omega
     have v00:(0:Int)≤(f:Int):=by omega
     obtain⟨q,hq⟩:∃q,P[f]? = some q:=⟨_,ax hfl⟩;obtain⟨g2,o2,rfl,_,hc⟩:=iK (lay:=iq) (fun _=>rfl) (Rd.of_own ho) hq rfl;obtain⟨M,hM⟩:∃M:Int,M=q.mode:=⟨_,rfl⟩;obtain⟨O,hO⟩:∃O:Bool,O=q.op:=⟨_,rfl⟩;obtain⟨pf,pt,hp1,hp2,hp3,hp4⟩:=HK.out.2.2.2 q (aO hq);have z0:wr.cell? ⟨g2,o2+f*5,none⟩=some (.int .i64 M):=by rw[hM];exact hc 0 _ rfl
     have z1:wr.cell? ⟨g2,o2+f*5+1,none⟩=some (.int .i64 (pf:Int)):=by rw[←hp1];exact hc 1 _ rfl
     have z2:wr.cell? ⟨g2,o2+f*5+2,none⟩=some (.int .i64 (pt:Int)):=by rw[←hp2];exact hc 2 _ rfl
     have z3:wr.cell? ⟨g2,o2+f*5+3,none⟩=some (.int .i64 q.up):=hc 3 _ rfl;have z4:wr.cell? ⟨g2,o2+f*5+4,none⟩=some (.bool O):=by rw[hO];exact hc 4 _ rfl
     have y2:wr.cell? ⟨bx,2,none⟩=some (.int .i64 x.fr):=by rw[hk.cell];rfl
     have hbl:=hk.lt;have hsuc:=mX (Ku x) hq;have hpre:=nS (Ku x) P (f+1);obtain⟨wo,hwo⟩:∃wo:World,wo=wr.alloc (.cells #[.int .i64 M,.int .i64 (pf:Int),.int .i64 (pt:Int),.int .i64 q.up,.bool O] 79):=⟨_,rfl⟩;have hbo:Below wr.heap.size wr wo:=by rw[hwo];exact(aC _ _).alloc (au _) _
     have hdo:=hd.below hF hbo;have HR:=aa (ac hdo (ac (hk.below hbo hbl) (ac (show iV X2 wr wo bx from .inl hxb) (ac (dS ho hbo) (show ∀k,(Value.slice (some ⟨g2,o2,none⟩) P.length c2).ownBlock=some k→iV X2 wr wo k from fun k hk=>.inl (hxo k hk))))));have w1:IntKind.i64.wrap (x.fr+(pf:Int))=x.fr+(pf:Int):=aS _ (by omega);have w2:IntKind.i64.wrap (x.fr+(pt:Int))=x.fr+(pt:Int):=aS _ (by omega);have w3:IntKind.i64.wrap (x.fr+(pt:Int)-1)=x.fr+(pt:Int)-1:=aS _ (by omega);have key:((M=12∨(M=13)∨(M=14)∨((M==12)=false∧(M==13)=false∧(M==14)=false∧O=true))∧Ku x q=[])∨(((M==12)=false∧(M==13)=false∧(M==14)=false∧O=false)∧Ku x q=[(x.fr+(pf:Int),x.fr+(pt:Int)-1)]):=by
       unfold Ku;rw[←hM,←hO,hp1,hp2];by_cases h1:M=12
       ·exact .inl ⟨.inl h1,by simp[h1]⟩
       by_cases h2:M=13
       ·exact .inl ⟨.inr (.inl h2),by simp[h2]⟩
       by_cases h3:M=14
       ·exact .inl ⟨.inr (.inr (.inl h3)),by simp[h3]⟩
       cases O
       ·exact .inr ⟨⟨aJ h1,aJ h2,aJ h3,rfl⟩,by simp[h1,h2,h3]⟩
       ·exact .inl ⟨.inr (.inr (.inr ⟨aJ h1,aJ h2,aJ h3,rfl⟩)),by simp⟩
     clear hc hq hbo hdo hd hk hxb ho hxo hM hO hp1 hp2;rcases key with ⟨hway,hE⟩|⟨⟨t1,t2,t3,rfl⟩,hE⟩
     ·rw[hE,bz] at hsuc;have HX:=aa hsuc;clear hsuc hpre hE;rcases hway with rfl|rfl|rfl|⟨t1,t2,t3,rfl⟩
      all_goals (
        gi_wp2_with (first
          | ((with_reducible refine⟨fun f h=>?_,?_⟩);cases h))
        rw[←hwo];exact⟨⟨f+1,_,by omega,by go_num,by rw[HX.out];exact HR.out.1,HR.out.2⟩,by simp[intOf];omega⟩)
     ·rw[hE] at hsuc;rw[hsuc] at hpre;obtain⟨fn,tmps,assign,body,hy,hRR⟩:=HK.out.1 _ _ (x.fr+(pf:Int),x.fr+(pt:Int)-1) wo HR.out.1.j (by rw[cO];exact((List.prefix_append_right_inj _).2 hpre).trans HK.out.2.2.1) (n-1);have hR2:=aa hRR;simp only[L5] at hy;rw[hwo] at hy;have hy2:=aa hy;have HX:=aa hsuc;clear hRR hy hpre hsuc hE;gi_wp2_with fail;rw[hy2.out];gi_wp2_with fail;refine⟨fun h=>by simp[Fence.wide] at h,?_⟩;rw[←hwo];refine hR2.out.mono ?_;rintro e W3 (⟨rfl,hJ3,hk3,hx3⟩|⟨rfl,hJx3,hk3,hx3⟩)
      ·have H3:=aa (ac (HR.out.1.next hJ3 hk3 hx3) (ac ((hx3 _ HR.out.2.2.1).trans HR.out.2.1) (lp HR.out.2.2.2.1 fun k hk=>hx3 k (HR.out.2.2.2.2 k hk))));clear hJ3 hk3 hx3;gi_wp2_with fail;exact⟨⟨f+1,_,by omega,by go_num,by rw[HX.out,←cO];exact H3.out.1,H3.out.2.1,HR.out.2.2.1,H3.out.2.2,HR.out.2.2.2.2⟩,by simp[intOf];omega⟩
      ·have H3:=aa hJx3;clear hJx3 hk3 hx3;gi_wp2_with fail;rw[bC];refine aK (dv rfl _ _ _) rfl ?_;exact .inr ⟨rfl,_,_,H3.out⟩
    ·obtain rfl:f=P.length:=by omega
     have HE:=aa hd;clear hd hk hxb ho hxo;gi_wp2_with fail;rw[bC];refine aK (dv rfl _ _ _) rfl ?_;exact .inl ⟨rfl,X2,by have h:=HE.out;rwa [dy] at h⟩
end Go.Proofs.YtcagfamdoaoimaaGreatDoor
namespace Go.Proofs.YtcagfamdoaoimaaGreatDoor
open Go.RowKit
attribute [local go_sem] Oper.semAt_some
def frAt (F:List Lf) (p:Nat):Int:=match F[p]? with|some y=>y.fr|none=>0
def ndP (F:List Lf) (L:List Nd) (k:Nat):List (Int×Int):=match L[k]? with
  | some x=>if GT x.kd=0 then [] else if 0≤lastL F L k x then [(frAt F x.fr,frAt F (lastL F L k x).toNat)] else []
  | none=>[]
def KE (x:Lf):List (Int×Int):=if x.kd=6 then MM x else []
def Jc (l:List UInt8):List (Int×Int):=(List.range (eP (f9 l)).l.length).flatMap (ndP (f9 l) (eP (f9 l)).l)++(f9 l).flatMap KE
structure xA (F:List Lf) (L:List Nd):Prop where
  fl:FL F L
  lf:∀y∈F,0≤y.fr∧y.fr≤1000000
  pr:∀k x,L[k]? = some x→GT x.kd≠0→0≤lastL F L k x→∃(y z:Lf) (j:Nat),F[x.fr]? = some y∧lastL F L k x=(j:Int)∧F[j]? = some z
def MB (J:(Nat→Prop)→List (Int×Int)→World→Prop) (W wr:World) (n₀:Nat) (Xc:Nat→Prop) (A1:Option Addr) (c1:Nat) (F:List Lf) (A2:Option Addr) (c2:Nat) (L:List Nd) (X:Nat→Prop) (pr:List (Int×Int)):Prop:=
  pN J W wr n₀ Xc (fun _=>False) X pr∧wr.ownsRow 0 29 4 (.slice A1 F.length c1) F.length (iF F)∧wr.ownsRow 0 56 4 (.slice A2 L.length c2) L.length (gQ L)∧(∀k,(Value.slice A1 F.length c1).ownBlock=some k→X k)∧∀k,(Value.slice A2 L.length c2).ownBlock=some k→X k
variable {J:(Nat→Prop)→List (Int×Int)→World→Prop} {W wr w':World} {n₀:Nat} {Xc X:Nat→Prop} {A1 A2:Option Addr} {c1 c2:Nat} {F:List Lf} {L:List Nd} {pr pr':List (Int×Int)}
theorem MB.below (hF:kH J) (h:MB J W wr n₀ Xc A1 c1 F A2 c2 L X pr) (hb:Below wr.heap.size wr w'):MB J W w' n₀ Xc A1 c1 F A2 c2 L (iV X wr w') pr:=
  ⟨h.1.below hF hb,dS h.2.1 hb,dS h.2.2.1 hb,fun k hk=>.inl (h.2.2.2.1 k hk),fun k hk=>.inl (h.2.2.2.2 k hk)⟩
theorem MB.next (h:MB J W wr n₀ Xc A1 c1 F A2 c2 L X pr) (hj:J X pr' w') (hk:eN n₀ Xc wr w') (hs:∀k,X k→w'.heap[k]? = wr.heap[k]?):MB J W w' n₀ Xc A1 c1 F A2 c2 L X pr':=
  ⟨h.1.next hj hk hs,lp h.2.1 fun k hk=>hs k (h.2.2.2.1 k hk),lp h.2.2.1 fun k hk=>hs k (h.2.2.2.2 k hk),h.2.2.2⟩
theorem wpStill_want {P:Program} {ops:Array Oper} {w:World} {Q:Act→Prop} {a:Act} {o:Oper} {rest:List Oper} (hw:Region.wanted o (yielded ops a.tmps)=true) (h:∀K:Act→Prop,(∀a,wpStill P ops w Q rest a→K a)→o.still P a w K):wpStill P ops w Q (o::rest) a:=by
  unfold wpStill;rw[aD hw];exact h _ fun _ h=>h
theorem FE (n l' Bn n₀:Nat) (Xc:Nat→Prop) (l:List UInt8) (hok:xA (f9 l) (eP (f9 l)).l) (J Jx:(Nat→Prop)→List (Int×Int)→World→Prop) (hF:kH J) (hY:YP l' (Jc l) n₀ Xc J Jx) (hl:l.length≤900) (W:World) (hBn:Bk W Bn 9 #[.string ⟨l.toArray⟩]) (wn:n₀≤W.heap.size) (h0:J (fun _=>False) [] W) :
    CallsIn Fence.wide n Tryz.prog 87 #[.func (.yield l') #[] #[],.pointer (some ⟨Bn,0,none⟩)] W fun e W'=>(∃v,e=.returned v)∧((∃xs X,xs=Jc l∧J X xs W')∨(∃pre X,True∧Jx X pre W')):=by
  have c1:=fun W=>Kw l W hl
  unfold Jc at hY ⊢;obtain⟨F,hFe⟩:∃F,F=f9 l:=⟨_,rfl⟩;rw[←hFe] at c1 hY hok ⊢;obtain⟨L,hLe⟩:∃L,L=(eP F).l:=⟨_,rfl⟩;rw[←hLe] at c1 hY hok ⊢;obtain⟨R,hRe⟩:∃R,R=List.range L.length:=⟨_,rfl⟩;rw[←hRe] at hY ⊢;have hRl:R.length=L.length:=by rw[hRe];simp
  have hRk:∀k,k<L.length→R[k]? = some k:=fun k hk=>by rw[hRe];simp[hk]
  have y0:W.cell? ⟨Bn,0,none⟩=some (.string ⟨l.toArray⟩):=by rw[hBn.cell];rfl
  have hll:=hok.fl.ln;have hfl9:=hok.fl.fn;have HC:=aa c1;have HK:=aa (ac hY (ac h0 (ac hok (ac hRl hRk))));clear c1 hFe hLe hRe hY h0 hok hRl hRk hBn;refine dk Tryz.func87 rfl trivial ?_ rfl;simp only[Tryz.ntmps87,bU,aP,bI,Nat.reduceAdd,Nat.reduceSub,bE,bF,bV,bJ,bT,bu]
  gi_wp2_with (first
    | (refine⟨trivial,fun h=>by simp[Fence.wide] at h,?_⟩;gi_at_call 11;refine(aU.2 (HC.out _)).mono ?_;rintro e w1 ⟨v1,v2,rfl,ho1,ho2,hb⟩;obtain⟨A1,n1,c1,rfl⟩:=dR ho1;obtain rfl:=ei ho1;obtain⟨A2,n2,c2,rfl⟩:=dR ho2;obtain rfl:=ei ho2;have H1:=aa (ac ho1 (ac ho2 hb));clear ho1 ho2 hb))
  have hst:∃X,MB J W w1 n₀ Xc A1 c1 F A2 c2 L X []:=by
    obtain⟨ho1,ho2,hb⟩:=H1.out;exact⟨_,(pN.start (Xc:=Xc) HK.out.2.1 (fun k hk=>hk.elim) wn).below hF hb,fK ho1 (bv _),fK ho2 (bv _),fun k hk=>.inr (ho1.lt k hk),fun k hk=>.inr (ho2.lt k hk)⟩
  have HS:=aa hst;clear hst y0;gi_loopw [17] (fun i wr=>∃(k:Nat) (X:Nat→Prop),k≤L.length∧i=.int .i64 k∧MB J W wr n₀ Xc A1 c1 F A2 c2 L X ((R.take k).flatMap (ndP F L))) (fun i _=>L.length-(intOf i).toNat)
  case atStart=>
    obtain⟨X,h⟩:=HS.out;exact⟨0,X,bv _,rfl,h⟩
  case round=>
    obtain⟨k,X,hk,rfl,hp⟩:=hrel;by_cases hkl:k<L.length
    ·have v0:(k:Int)<(L.length:Int):=by omega
     have v00:(0:Int)≤(k:Int):=by omega
     obtain⟨x,hx⟩:∃x,L[k]? = some x:=⟨_,ax hkl⟩;obtain⟨g2,o2,rfl,_,hc2⟩:=iK jk (Rd.of_own hp.2.2.1) hx rfl;have z0:wr.cell? ⟨g2,o2+k*4,none⟩=some (.int .i64 (x.kd:Int)):=hc2 0 _ rfl;have z1:wr.cell? ⟨g2,o2+k*4+1,none⟩=some (.int .i64 (x.fr:Int)):=hc2 1 _ rfl;have z2:wr.cell? ⟨g2,o2+k*4+2,none⟩=some (.int .i64 (x.tt:Int)):=hc2 2 _ rfl;have z3:wr.cell? ⟨g2,o2+k*4+3,none⟩=some (.int .i64 x.up):=hc2 3 _ rfl;obtain⟨wo,hwo⟩:∃wo:World,wo=wr.alloc (.cells #[.int .i64 (x.kd:Int),.int .i64 (x.fr:Int),.int .i64 (x.tt:Int),.int .i64 x.up] 56):=⟨_,rfl⟩;have hbo:Below wr.heap.size wr wo:=by rw[hwo];exact(aC _ _).alloc (au _) _
     have hko:Bk wo wr.heap.size 56 #[.int .i64 (x.kd:Int),.int .i64 (x.fr:Int),.int .i64 (x.tt:Int),.int .i64 x.up]:=by rw[hwo];exact Bk.new _ _ _
     have hso:wo.heap.size=wr.heap.size+1:=by rw[hwo];simp
     have hpo:=hp.below hF hbo;have hsuc:=mX (ndP F L) (HK.out.2.2.2.2 k hkl);have hpre:=(nS (ndP F L) R (k+1)).trans (List.prefix_append _ (F.flatMap KE));have hnd:ndP F L k=if GT x.kd=0 then [] else if 0≤lastL F L k x then [(frAt F x.fr,frAt F (lastL F L k x).toNat)] else []:=by unfold ndP;rw[hx]
     have hE:=fun W=>JV x.kd W
     have hLc:=fun W hF hR=>lastk_m F L HK.out.2.2.1.fl A1 (some ⟨g2,o2,none⟩) c1 c2 k x hx W hF hR
     have hprs:=HK.out.2.2.1.pr k x hx;have HR:=aa (ac hpo (ac hsuc (ac hpre (ac hE (ac hLc hko)))));clear hc2 hx hp hbo hpo hsuc hpre hE hLc hko;obtain⟨sg,hsg⟩:∃sg,sg=GT x.kd:=⟨_,rfl⟩;rw[←hsg] at hprs hnd;have ht0:=i7 sg 0;by_cases h0:sg=0
     ·rw[aD h0] at hnd;have t1:(((GT x.kd).toNat:Int)==0)=true:=by rw[←hsg,h0];rfl
      have HX:=aa hnd;clear hnd hprs ht0 h0 hsg
      gi_wp2_with (first
        | (refine⟨trivial,fun h=>by simp[Fence.wide] at h,?_⟩;gi_at_call 88;refine(aU.2 (HR.out.2.2.2.1 _)).mono ?_;rintro e w3 ⟨rfl,hw3⟩;obtain rfl:=hw3.symm;clear hw3)
        | ((with_reducible refine⟨fun f h=>?_,?_⟩);cases h))
      rw[←hwo];exact⟨⟨k+1,_,by omega,by go_num,by rw[HR.out.2.1,HX.out,bz];exact HR.out.1⟩,by simp[intOf];omega⟩
     ·rw[aB h0] at hnd;have t1:(((GT x.kd).toNat:Int)==0)=false:=by rw[←hsg];exact ht0.trans (aJ h0)
      have hpr:=hprs h0;obtain⟨jv,hjv⟩:∃jv:Int,jv=lastL F L k x:=⟨_,rfl⟩;have hlc:=HR.out.2.2.2.2.1;rw[←hjv] at hpr hnd hlc;subst hwo;have HL:=aa (ac hlc hnd);clear hprs ht0 h0 hsg hlc hnd hjv;by_cases hj0:0≤jv
      ·obtain⟨y,z,j,hy,rfl,hz⟩:=hpr hj0;obtain⟨g1,o1,rfl,_,_⟩:=iK (lay:=LJ) (fun _=>rfl) (Rd.of_own HR.out.1.2.1) hy rfl;have hfy:=(ay.1 hy).1;have hfz:=(ay.1 hz).1;have w1':(x.fr:Int)<(F.length:Int):=by omega
       have w2':(0:Int)≤(x.fr:Int):=by omega
       have w3':(j:Int)<(F.length:Int):=by omega
       have w4':(0:Int)≤(j:Int):=by omega
       have w5':decide ((0:Int)≤(j:Int))=true:=by simp
       have hnd:ndP F L k=[(y.fr,z.fr)]:=by rw[HL.out.2,aD hj0];unfold frAt;rw[hy,Int.toNat_natCast,hz]
       have HY:=aa (ac hy (ac hz hnd));clear hy hz hnd hpr hj0
       gi_wp2_with (first
         | (refine⟨trivial,fun h=>by simp[Fence.wide] at h,?_⟩;gi_at_call 88;refine(aU.2 (HR.out.2.2.2.1 _)).mono ?_;rintro e w3 ⟨rfl,hw3⟩;obtain rfl:=hw3.symm;clear hw3)
         | (refine⟨trivial,fun h=>by simp[Fence.wide] at h,?_⟩;gi_at_call 89;refine(aU.2 (HL.out.1 _ (Rd.of_own HR.out.1.2.1) (Rd.of_own HR.out.1.2.2.1))).mono ?_;rintro e w5 ⟨rfl,hb5⟩;have H5:=aa hb5;clear hb5)
         | ((with_reducible refine⟨fun f h=>?_,?_⟩);cases h))
       have hp5:=(HR.out.1.below hF H5.out).below hF (aC _ w5).drew;obtain⟨_,_,he1,_,hcy⟩:=iK (lay:=LJ) (fun _=>rfl) (Rd.of_own (dS HR.out.1.2.1 H5.out)) HY.out.1 rfl
       cases he1;obtain⟨_,_,he1,_,hcz⟩:=iK (lay:=LJ) (fun _=>rfl) (Rd.of_own (dS HR.out.1.2.1 H5.out)) HY.out.2.1 rfl
       cases he1;have q1:w5.cell? ⟨g1,o1+x.fr*4+2,none⟩=some (.int .i64 y.fr):=hcy 2 _ rfl;have q2:w5.cell? ⟨g1,o1+j*4+2,none⟩=some (.int .i64 z.fr):=hcz 2 _ rfl;have hk5:=HR.out.2.2.2.2.2.below H5.out (by omega);have q3:w5.cell? ⟨wr.heap.size,1,none⟩=some (.int .i64 (x.fr:Int)):=by rw[hk5.cell];rfl
       have hsuc:=HR.out.2.1;have hpre:=HR.out.2.2.1;rw[HY.out.2.2] at hsuc;rw[hsuc] at hpre;obtain⟨fn,tmps,assign,body,hy,hRR⟩:=HK.out.1 _ _ (y.fr,z.fr) w5.drew hp5.1.j hpre (n-1);have hR2:=aa hRR;simp only[L5] at hy;have hy2:=aa hy;have HP:=aa (ac hp5 hsuc);clear hRR hy hpre hsuc hp5 hcy hcz hk5;refine i5 0 15 (by kernel_rfl) (by kernel_rfl) fun K hK=>?_
       simp only[cF,List.take_zero,List.drop_succ_cons,dt] at hK ⊢;refine hK _ _ ?_;clear hK K;iterate 15 (refine wpStill_want (by kernel_rfl) (fun K hK=>?_);go_simp;refine hK _ ?_;clear hK K)
       refine wpStill_nil ?_
       gi_wp2_with (first
         | (rw[hy2.out]))
       refine⟨fun h=>by simp[Fence.wide] at h,?_⟩;refine hR2.out.mono ?_;rintro e W3 (⟨rfl,hJ3,hk3,hx3⟩|⟨rfl,hJx3,hk3,hx3⟩)
       ·have H3:=aa (HP.out.1.next hJ3 hk3 hx3);clear hJ3 hk3 hx3 q1 q2 q3;gi_wp2_with fail;exact⟨⟨k+1,_,by omega,by go_num,by rw[HP.out.2];exact H3.out⟩,by simp[intOf];omega⟩
       ·have H3:=aa hJx3;clear hJx3 hk3 hx3 q1 q2 q3;gi_wp2_with fail;refine aK (results_none rfl _ _ _) rfl ?_;exact⟨⟨_,rfl⟩,.inr ⟨_,_,trivial,H3.out⟩⟩
      ·have w5':decide ((0:Int)≤jv)=false:=by simpa using hj0
       have hnd:ndP F L k=[]:=by rw[HL.out.2,aB hj0]
       have HY:=aa hnd;clear hnd hpr hj0
       gi_wp2_with (first
         | (refine⟨trivial,fun h=>by simp[Fence.wide] at h,?_⟩;gi_at_call 88;refine(aU.2 (HR.out.2.2.2.1 _)).mono ?_;rintro e w3 ⟨rfl,hw3⟩;obtain rfl:=hw3.symm;clear hw3)
         | (refine⟨trivial,fun h=>by simp[Fence.wide] at h,?_⟩;gi_at_call 89;refine(aU.2 (HL.out.1 _ (Rd.of_own HR.out.1.2.1) (Rd.of_own HR.out.1.2.2.1))).mono ?_;rintro e w5 ⟨rfl,hb5⟩;have H5:=aa hb5;clear hb5)
         | ((with_reducible refine⟨fun f h=>?_,?_⟩);cases h))
       refine(wpIn_wide (n:=n)).2 ?_;go_quiet (fail);go_wp2_with fail;gi_wp2_with fail;exact⟨⟨k+1,_,by omega,by go_num,by rw[HR.out.2.1,HY.out,bz];exact(HR.out.1.below hF H5.out).below hF (dN (aC _ w5) _)⟩,by simp[intOf];omega⟩
    ·obtain rfl:k=L.length:=by omega
     have hR0:R.take L.length=R:=by rw[←HK.out.2.2.2.1,dy]
     rw[hR0] at hp;have HE:=aa hp;clear hp hR0;gi_wp2_with fail;gi_loopw [51] (fun i wr=>∃(f:Nat) (X:Nat→Prop),f≤F.length∧i=.int .i64 f∧MB J W wr n₀ Xc A1 c1 F A2 c2 L X (R.flatMap (ndP F L)++(F.take f).flatMap KE)) (fun i _=>F.length-(intOf i).toNat)
     case atStart=>exact⟨0,X,bv _,rfl,by rw[List.take_zero,List.flatMap_nil,bz];exact HE.out⟩
     case round=>
       obtain⟨f,X2,hf,rfl,hp⟩:=hrel;by_cases hfl:f<F.length
       ·have v0:(f:Int)<(F.length:Int):=by omega
        have v00:(0:Int)≤(f:Int):=by omega
        obtain⟨x,hx⟩:∃x,F[f]? = some x:=⟨_,ax hfl⟩;obtain⟨g1,o1,rfl,_,hc1⟩:=iK (lay:=LJ) (fun _=>rfl) (Rd.of_own hp.2.1) hx rfl;obtain⟨KD,hKD⟩:∃KD:Int,KD=x.kd:=⟨_,rfl⟩;have z0:wr.cell? ⟨g1,o1+f*4,none⟩=some (.int .i64 KD):=by rw[hKD];exact hc1 0 _ rfl
        have z1:wr.cell? ⟨g1,o1+f*4+1,none⟩=some (.string ⟨x.tx.toArray⟩):=hc1 1 _ rfl;have z2:wr.cell? ⟨g1,o1+f*4+2,none⟩=some (.int .i64 x.fr):=hc1 2 _ rfl;have z3:wr.cell? ⟨g1,o1+f*4+3,none⟩=some (.int .i64 x.to):=hc1 3 _ rfl;obtain⟨wo,hwo⟩:∃wo:World,wo=wr.alloc (.cells #[.int .i64 KD,.string ⟨x.tx.toArray⟩,.int .i64 x.fr,.int .i64 x.to] 29):=⟨_,rfl⟩;have hbo:Below wr.heap.size wr wo:=by rw[hwo];exact(aC _ _).alloc (au _) _
        have hpo:=hp.below hF hbo;have hsuc:=mX KE hx;have hpre:=(List.prefix_append_right_inj (R.flatMap (ndP F L))).2 (nS KE F (f+1));have hxf:=HK.out.2.2.1.lf x (aO hx);have hxt:=HK.out.2.2.1.fl.tx x (aO hx);have HR:=aa (ac hpo hsuc);clear hc1 hx hp hbo hpo;by_cases h6:KD=6
        ·subst h6;have e6:KE x=MM x:=by unfold KE;rw[aD hKD.symm]
         rw[hsuc,e6,←cO] at hpre;have hq:=C8 (n-1) l' _ n₀ Xc _ J Jx hF HK.out.1 x hxt hxf.1 hxf.2 wo _ HR.out.1.1.here hpre;unfold LI at hq;rw[←hKD,hwo] at hq;have HQ:=aa (ac hq e6);clear hq e6 hsuc hpre hKD;gi_wp2_with fail;refine⟨trivial,fun h=>by simp[Fence.wide] at h,?_⟩;refine HQ.out.1.mono ?_;rintro e w9 (⟨rfl,X9,hd9⟩|⟨rfl,X9,ys,hx9⟩)
         ·rw[←hwo] at hd9;have H9:=aa (ac (HR.out.1.1.then hd9) (ac (lp HR.out.1.2.1 fun k hk=>hd9.sm k (HR.out.1.2.2.2.1 k hk)) (ac (lp HR.out.1.2.2.1 fun k hk=>hd9.sm k (HR.out.1.2.2.2.2 k hk)) (ac (fun k hk=>hd9.xx k (HR.out.1.2.2.2.1 k hk)) (fun k hk=>hd9.xx k (HR.out.1.2.2.2.2 k hk))))));clear hd9;gi_wp2_with fail;exact⟨⟨f+1,X9,by omega,by go_num,by rw[HR.out.2,HQ.out.2,←cO];exact⟨H9.out.1,H9.out.2⟩⟩,by simp[intOf];omega⟩
         ·have H9:=aa hx9;clear hx9;gi_wp2_with fail;refine aK (results_none rfl _ _ _) rfl ?_;exact⟨⟨_,rfl⟩,.inr ⟨_,_,trivial,H9.out⟩⟩
        ·have t1:(KD==6)=false:=aJ h6;have e6:KE x=[]:=by unfold KE;rw[aB (by rw[←hKD];exact h6)]
         rw[e6,bz] at hsuc;have HX:=aa hsuc;clear hsuc hpre h6 e6 hKD
         gi_wp2_with (first
           | (refine⟨trivial,?_⟩))
         rw[←hwo];exact⟨⟨f+1,_,by omega,by go_num,by rw[HX.out];exact HR.out.1⟩,by simp[intOf];omega⟩
       ·obtain rfl:f=F.length:=by omega
        have HZ:=aa hp;clear hp;gi_wp2_with fail;go_end0;refine⟨⟨_,rfl⟩,.inl ⟨_,X2,rfl,?_⟩⟩
        have:=HZ.out.1.j
        rwa [dy] at this
end Go.Proofs.YtcagfamdoaoimaaGreatDoor
namespace Go.Proofs.YtcagfamdoaoimaaGreatDoor
open Go.RowKit
attribute [local go_sem] Oper.semAt_some
def sf (N:List (Int×Int)) (a:Int):Option Int:=match N.find? fun p=>a==p.1||a==p.2 with|some p=>some (if a=p.1 then p.2 else p.1)|none=>none
theorem vG {pre:List (Int×Int)} {p:Int×Int} {N:List (Int×Int)} {a:Int} (hN:pre++[p]<+:N) (hno:∀q∈pre,a≠q.1∧a≠q.2) (hp:a=p.1∨a=p.2):sf N a=some (if a=p.1 then p.2 else p.1):=by
  obtain⟨r,rfl⟩:=hN;unfold sf;have h1:pre.find? (fun p=>a==p.1||a==p.2)=none:=by
    rw[cW];intro q hq
    have:=hno q hq
    simp[this.1,this.2]
  rw[List.find?_append,List.find?_append,h1];have h2:(a==p.1||a==p.2)=true:=by rcases hp with h|h<;>simp[h]
  simp[h2]
theorem F4 {N:List (Int×Int)} {a:Int} (hno:∀q∈N,a≠q.1∧a≠q.2):sf N a=none:=by
  unfold sf;have h1:N.find? (fun p=>a==p.1||a==p.2)=none:=by
    rw[cW];intro q hq
    have:=hno q hq
    simp[this.1,this.2]
  rw[h1]
theorem Jk (l:List UInt8) (w:World) :
    Calls Tryz.prog 51 #[.string ⟨l.toArray⟩] w fun e w'=>e=.returned (.func (.func 87) #[] #[.pointer (some ⟨w.heap.size,0,none⟩)])∧w'=w.alloc (.cells #[.string ⟨l.toArray⟩] 9):=by
  go_enter Tryz.func51,Tryz.ntmps51;go_wp2;go_ret;exact⟨rfl,rfl⟩
theorem Dj (l:List UInt8) (hok:xA (f9 l) (eP (f9 l)).l) (hl:l.length≤900) (Bn n₀:Nat) (Xc:Nat→Prop) (W0:World) (hBn:Bk W0 Bn 9 #[.string ⟨l.toArray⟩]) (hn:n₀≤W0.heap.size) :
    Kl Tryz.prog 87 #[.pointer (some ⟨Bn,0,none⟩)] L5 (eN n₀ Xc) (fun xs=>xs=Jc l) (fun _=>True) (Jc l) W0:=by
  intro n l' J Jx W hW hF _ hY hJ;exact FE n l' Bn n₀ Xc l hok J Jx hF hY hl W (hBn.below hW hBn.lt) (aA hn hW.size) hJ
structure DZ (B N:Nat) (Bw:World) (at_ nv:Int) (ok:Bool) (X:Nat→Prop) (W:World):Prop where
  a:Bk W B 3 #[.int .i64 at_]
  n:Bk W (B+1) 3 #[.int .i64 nv]
  k:Bk W (B+2) 4 #[.bool ok]
  x:∀k,X k→N≤k∧k<W.heap.size
  bl:Below B Bw W
  sz:N≤W.heap.size
theorem DZ.xg {B N:Nat} {Bw:World} {at_ nv:Int} {ok:Bool} {X:Nat→Prop} {A C:World} (hN:B+3≤N) (h:DZ B N Bw at_ nv ok X A) (hx:XG X A C):DZ B N Bw at_ nv ok (iV X A C) C:=by
  have hb:∀k,k<B+3→k<A.heap.size→C.heap[k]? = A.heap[k]? := fun k h1 h2=>hx.block k h2 fun hX=>by have:=(h.x k hX).1;omega
  refine⟨(hb _ (by omega) h.a.lt).trans h.a,(hb _ (by omega) h.n.lt).trans h.n,(hb _ (by omega) h.k.lt).trans h.k,fun k hk=>?_,⟨hx.os.trans h.bl.1,hx.tape.trans h.bl.2,hx.output.trans h.bl.3,aA h.bl.size hx.size,fun k hk=>?_⟩,aA h.sz hx.size⟩
  ·rcases hk with hk|hk
   ·have:=h.x k hk;have:=hx.size;omega
   ·have:=h.sz;omega
  ·have:=h.sz
   exact(hb k (by omega) (by omega)).trans (h.bl.block k hk)
theorem DZ.own {B N M:Nat} {Bw:World} {at_ nv:Int} {ok:Bool} (X:Nat→Prop) (hB:B≤M) (hB2:B≤Bw.heap.size):OwnFrom M (fun (_:Unit) W=>DZ B N Bw at_ nv ok X W):=by
  rintro s W W' row h hg hr;have hk:∀(b:Nat) (t:TypeId) (cs:Array Value),Bk W b t cs→Bk W' b t cs:=fun b t cs hb=>hb.grown hg (fun e=>by
    obtain⟨_,o,ho,hc⟩:=hr _ e.symm;rw[show W.heap[b]? = _ from hb] at ho
    cases ho
    cases hc)
  exact⟨hk _ _ _ h.a,hk _ _ _ h.n,hk _ _ _ h.k,fun k hx=>⟨(h.x k hx).1,bA (h.x k hx).2 hg.size⟩,ownFrom_below (β:=Unit) (w₀:=Bw) (n₀:=B) hB2 hB () W W' row h.bl hg hr,aA h.sz hg.size⟩
theorem Gc {M:Nat} {W:World} {g:Nat} {t:TypeId} {cs:Array Value} {fr:Nat×Nat} (hb:W.heap[g]? = some (.cells cs t fr)) (o:Nat) (v:Value):KeepsFrom M W (W.setCell ⟨g,o,none⟩ v):=by
  refine⟨by simp[World.setCell],fun k ob _ hk hc=>?_⟩;refine(bK _ _ _ k (fun e=>?_)).trans hk;have e':k=g:=e;subst e';rw[hb] at hk
  cases hk
  cases hc
theorem DZ.put {B N M:Nat} {Bw:World} {at_ nv:Int} {ok:Bool} {X:Nat→Prop} {W:World} (hN:B+3≤N) (h:DZ B N Bw at_ nv ok X W) (v:Int) :
    KeepsFrom M W ((W.setCell ⟨B+1,0,none⟩ (.int .i64 v)).setCell ⟨B+2,0,none⟩ (.bool true))∧eN N (fun k=>k<B+3) W ((W.setCell ⟨B+1,0,none⟩ (.int .i64 v)).setCell ⟨B+2,0,none⟩ (.bool true))∧(∀k,X k→((W.setCell ⟨B+1,0,none⟩ (.int .i64 v)).setCell ⟨B+2,0,none⟩ (.bool true)).heap[k]? = W.heap[k]?)∧DZ B N Bw at_ v true X ((W.setCell ⟨B+1,0,none⟩ (.int .i64 v)).setCell ⟨B+2,0,none⟩ (.bool true)):=by
  have k1:Bk (W.setCell ⟨B+1,0,none⟩ (.int .i64 v)) (B+1) 3 #[.int .i64 v]:=by simpa using h.n.set 0 (.int .i64 v)
  have k2:Bk (W.setCell ⟨B+1,0,none⟩ (.int .i64 v)) (B+2) 4 #[.bool ok]:=h.k.far (by show B+2≠B+1;omega) _;have k0:Bk (W.setCell ⟨B+1,0,none⟩ (.int .i64 v)) B 3 #[.int .i64 at_]:=h.a.far (by show B≠B+1;omega) _;have hs:((W.setCell ⟨B+1,0,none⟩ (.int .i64 v)).setCell ⟨B+2,0,none⟩ (.bool true)).heap.size=W.heap.size:=by simp[World.setCell]
  have f1:KeepsFrom M W (W.setCell ⟨B+1,0,none⟩ (.int .i64 v)):=Gc h.n 0 _;have f2:KeepsFrom M (W.setCell ⟨B+1,0,none⟩ (.int .i64 v)) ((W.setCell ⟨B+1,0,none⟩ (.int .i64 v)).setCell ⟨B+2,0,none⟩ (.bool true)):=Gc k2 0 _;refine⟨⟨aA f1.size f2.size,fun k o hM ho hc=>f2.same k o hM (f1.same k o hM ho hc) hc⟩,((eN.refl _ _ _).set (.inr (by show B+1<B+3;omega)) 0 _).trans ((eN.refl _ _ _).set (.inr (by show B+2<B+3;omega)) 0 _),fun k hk=>?_,k0.far (by show B≠B+2;omega) _,k1.far (by show B+1≠B+2;omega) _,by simpa using k2.set 0 (.bool true),fun k hk=>by rw[hs];exact h.x k hk,(h.bl.setCell (p:=⟨B+1,0,none⟩) (by show B≤B+1;omega) _).setCell (p:=⟨B+2,0,none⟩) (by show B≤B+2;omega) _,by rw[hs];exact h.sz⟩;have hk2:=(h.x k hk).1
  exact(bK _ _ _ k (by show k≠B+2;omega)).trans (bK _ _ _ k (by show k≠B+1;omega))
theorem Mu (l:List UInt8) (hok:xA (f9 l) (eP (f9 l)).l) (hl:l.length≤900) (a:Int) (w:World) :
    Calls Tryz.prog 21 #[.string ⟨l.toArray⟩,.int .i64 a] w fun e w'=>e=.returned (.tuple #[.int .i64 ((sf (Jc l) a).getD 0),.bool (sf (Jc l) a).isSome])∧Below w.heap.size w w':=by
  refine(aU (n:=5)).1 ?_;refine callsIn_of_wp_marks Tryz.func21 rfl trivial ?_ rfl;simp only[Tryz.ntmps21,bU,aP,bI,Nat.reduceAdd,Nat.reduceSub,bE,bF,bV,bJ,bT,bu];gi_wp2_with (
    (refine⟨trivial,?_⟩;gi_at_call 51;refine(aU.2 (Jk l _)).mono ?_;rintro e w2 ⟨rfl,rfl⟩))
  obtain⟨W0,hW0⟩:∃W0,(((w.alloc (.cells #[.int .i64 a] 3)).alloc (.cells #[.int .i64 0] 3)).alloc (.cells #[.bool false] 4)).alloc (.cells #[.string ⟨l.toArray⟩] 9)=W0:=⟨_,rfl⟩;have hs0:W0.heap.size=w.heap.size+4:=by rw[←hW0];simp
  have hb0:Below w.heap.size w W0:=by rw[←hW0];exact((((aC _ w).alloc (au _) _).alloc (by simp) _).alloc (by simp<;>omega) _).alloc (by simp<;>omega) _
  have kA:Bk W0 w.heap.size 3 #[.int .i64 a]:=by rw[←hW0];exact(((Bk.new w _ _).alloc _).alloc _).alloc _
  have kN:Bk W0 (w.heap.size+1) 3 #[.int .i64 0]:=by rw[←hW0];exact((fH w _ _ _ _).alloc _).alloc _
  have kO:Bk W0 (w.heap.size+2) 4 #[.bool false]:=by
    rw[←hW0]
    have:=Bk.new ((w.alloc (.cells #[.int .i64 a] 3)).alloc (.cells #[.int .i64 0] 3)) 4 #[.bool false]
    rw[aV,aV] at this;exact this.alloc _
  have kS:Bk W0 (w.heap.size+3) 9 #[.string ⟨l.toArray⟩]:=by
    rw[←hW0]
    have:=Bk.new (((w.alloc (.cells #[.int .i64 a] 3)).alloc (.cells #[.int .i64 0] 3)).alloc (.cells #[.bool false] 4)) 9 #[.string ⟨l.toArray⟩]
    rw[aV,aV,aV] at this;exact this
  first
    | rw[hW0]
    | (simp only[aV] at hW0 ⊢;rw[hW0])
  clear hW0
  refine nG (by omega) (gf:=87) (lb:=#[.pointer (some ⟨w.heap.size+3,0,none⟩)]) rfl (enters_of Tryz.func87 (by kernel_rfl) rfl)
    (Dj l hok hl (w.heap.size+3) W0.heap.size (fun k=>k<w.heap.size+3) W0 kS (au _)) (fun h k=>h.trans k) (fun W l o o' hl h1 h2 h3=>oJ W l o o' (by omega) h1 h2 h3) (aC _ _) (fun _=>rfl)
    (fun X pre W=>DZ w.heap.size W0.heap.size w a 0 false X W∧∀q∈pre,a≠q.1∧a≠q.2)
    (fun c X pre W=>c=.ret∧∃v,DZ w.heap.size W0.heap.size w a v true X W∧sf (Jc l) a=some v)
    (fun X s A C h hx=>⟨h.1.xg (by omega) hx,h.2⟩) (fun c X s A C h hx=>by obtain⟨h1,v,h2,h3⟩:=h;exact⟨h1,v,h2.xg (by omega) hx,h3⟩)
    (fun X pre W W' row h hg hr=>⟨DZ.own X (by omega) (au _) () W W' row h.1 hg hr,h.2⟩) (fun c X pre W W' row h hg hr=>by obtain⟨h1,v,h2,h3⟩:=h;exact⟨h1,v,DZ.own X (by omega) (au _) () W W' row h2 hg hr,h3⟩)
    ⟨⟨kA,kN,kO,fun k hk=>hk.elim,hb0,au _⟩,fun q hq=>(by simp at hq)⟩
    (fun x a' W=>a'={tmps:=#[.string ⟨l.toArray⟩,.int .i64 a,undef,.pointer (some ⟨w.heap.size,0,none⟩),.pointer (some ⟨w.heap.size+1,0,none⟩),.pointer (some ⟨w.heap.size+2,0,none⟩),.int .i64 x.1,.int .i64 x.2,.string ⟨l.toArray⟩,.func (.func 87) #[] #[.pointer (some ⟨w.heap.size+3,0,none⟩)],.int .i64 x.1,.int .i64 x.2,undef,undef,undef,undef,undef,undef,undef,undef,undef],defers:=[]})
    (fun x a'=>fun _ _ _ _ h _ _=>h) ?assign ?body ?done ?stop
  case assign=>
    intro l' X pre x W K hI hpx hK;gi_wp2;exact hK _ _ (ix (aC _ _)) (eN.refl _ _ _) (fun k hk=>rfl) hI rfl
  case body=>
    rintro l' X pre x a' W hl1 hl2 ⟨hI,hno⟩ rfl hpx;have ca:W.cell? ⟨w.heap.size,0,none⟩=some (.int .i64 a):=by rw[hI.a.cell];rfl
    have cn:W.cell? ⟨w.heap.size+1,0,none⟩=some (.int .i64 0):=by rw[hI.n.cell];rfl
    have ck:W.cell? ⟨w.heap.size+2,0,none⟩=some (.bool false):=by rw[hI.k.cell];rfl
    have fn:=hI.n.frozen 0;have fk:=hI.k.frozen 0;have hp:=fun v=>DZ.put (M:=W0.heap.size) (by omega) hI v
    have HI:=aa (ac hp (ac hI (ac hno hpx)));clear hp hI hno hpx;obtain⟨x1,x2⟩:=x;by_cases h1:a=x1
    ·subst h1;gi_wp2_with fail;have hm:=vG HI.out.2.2.2 HI.out.2.2.1 (.inl rfl);rw[aD rfl] at hm;exact⟨(HI.out.1 x2).1,(HI.out.1 x2).2.1,(HI.out.1 x2).2.2.1,rfl,x2,(HI.out.1 x2).2.2.2,hm⟩
    ·have t1:(a==x1)=false:=aJ h1;by_cases h2:a=x2
     ·subst h2;gi_wp2_with fail;have hm:=vG HI.out.2.2.2 HI.out.2.2.1 (.inr rfl);rw[aB h1] at hm;exact⟨(HI.out.1 x1).1,(HI.out.1 x1).2.1,(HI.out.1 x1).2.2.1,rfl,x1,(HI.out.1 x1).2.2.2,hm⟩
     ·have t2:(a==x2)=false:=aJ h2;gi_wp2_with fail;exact⟨ix (aC _ _),eN.refl _ _ _,fun k hk=>rfl,HI.out.2.1,fun q hq=>by
        rcases aZ.1 hq with hq|hq
        ·exact HI.out.2.2.1 q hq
        ·rw[cE.1 hq];exact⟨h1,h2⟩⟩
  case done=>
    rintro D X ys W hD hys ⟨hI,hno⟩ hK;rw[hys] at hno;have hm:=F4 hno;have hsz:=hI.sz;have fn:=hI.n.frozen 0;have fk:=hI.k.frozen 0;have cn:W.cell? ⟨w.heap.size+1,0,none⟩=some (.int .i64 0):=by rw[hI.n.cell];rfl
    have ck:W.cell? ⟨w.heap.size+2,0,none⟩=some (.bool false):=by rw[hI.k.cell];rfl
    obtain⟨W2,hW2⟩:∃W2,W2=(W.setCell ⟨w.heap.size+1,0,none⟩ (.int .i64 0)).setCell ⟨w.heap.size+2,0,none⟩ (.bool false):=⟨_,rfl⟩;have k1:Bk W2 (w.heap.size+1) 3 #[.int .i64 0]:=by
      have h:Bk (W.setCell ⟨w.heap.size+1,0,none⟩ (.int .i64 0)) (w.heap.size+1) 3 #[.int .i64 0]:=by simpa using hI.n.set 0 (.int .i64 0)
      rw[hW2];exact h.far (by show w.heap.size+1≠w.heap.size+2;omega) _
    have k2:Bk W2 (w.heap.size+2) 4 #[.bool false]:=by
      have h:Bk (W.setCell ⟨w.heap.size+1,0,none⟩ (.int .i64 0)) (w.heap.size+2) 4 #[.bool false]:=hI.k.far (by show w.heap.size+2≠w.heap.size+1;omega) _;rw[hW2];simpa using h.set 0 (.bool false)
    have hb2:Below w.heap.size w W2:=by rw[hW2];exact(hI.bl.setCell (p:=⟨w.heap.size+1,0,none⟩) (by show w.heap.size≤w.heap.size+1;omega) _).setCell (p:=⟨w.heap.size+2,0,none⟩) (by show w.heap.size≤w.heap.size+2;omega) _
    have hK2:W2.heap[D]? = some (.deferred (some [])):=by rw[hW2];exact(bK _ _ _ D (by show D≠w.heap.size+2;omega)).trans ((bK _ _ _ D (by show D≠w.heap.size+1;omega)).trans hK)
    have hbk:=belowK_b (w:=w) (au _) W2 D (.deferred (some [])) (.deferred none) (by omega) hK2 rfl rfl;have k1':Bk (W2.putObj D (.deferred none)) (w.heap.size+1) 3 #[.int .i64 0]:=(World.putObj_heap_other (by omega)).trans k1;have k2':Bk (W2.putObj D (.deferred none)) (w.heap.size+2) 4 #[.bool false]:=(World.putObj_heap_other (by omega)).trans k2;have d1:(W2.putObj D (.deferred none)).cell? ⟨w.heap.size+1,0,none⟩=some (.int .i64 0):=by rw[k1'.cell];rfl
    have d2:(W2.putObj D (.deferred none)).cell? ⟨w.heap.size+2,0,none⟩=some (.bool false):=by rw[k2'.cell];rfl
    have HD:=aa (ac hb2 (ac hbk (ac hm hK2)));clear hb2 hbk hK hK2 hm hno hI k1 k2 k1' k2' hys;gi_wp2_with fail;rw[←hW2];refine⟨by simp,.inl ⟨_,_,rfl,run_takeDeferred HD.out.2.2.2,?_⟩⟩;exact⟨.tuple #[.int .i64 0,.bool false],by simp[results,Tryz.results21,go_sem,d1,d2],⟨by rw[HD.out.2.2.1];rfl,HD.out.1.trans HD.out.2.1⟩⟩
  case stop=>
    rintro D c X pre W hD _ ⟨rfl,v,hI,hm⟩ hK;have hsz:=hI.sz;have hbk:=belowK_b (w:=w) (au _) W D (.deferred (some [])) (.deferred none) (by omega) hK rfl rfl;have k1':Bk (W.putObj D (.deferred none)) (w.heap.size+1) 3 #[.int .i64 v]:=(World.putObj_heap_other (by omega)).trans hI.n;have k2':Bk (W.putObj D (.deferred none)) (w.heap.size+2) 4 #[.bool true]:=(World.putObj_heap_other (by omega)).trans hI.k;have d1:(W.putObj D (.deferred none)).cell? ⟨w.heap.size+1,0,none⟩=some (.int .i64 v):=by rw[k1'.cell];rfl
    have d2:(W.putObj D (.deferred none)).cell? ⟨w.heap.size+2,0,none⟩=some (.bool true):=by rw[k2'.cell];rfl
    have HD:=aa (ac hI.bl (ac hbk (ac hm hK)));clear hbk hK hm hI k1' k2';gi_wp2_with fail;refine⟨by simp,.inl ⟨_,_,rfl,run_takeDeferred HD.out.2.2.2,?_⟩⟩;exact⟨.tuple #[.int .i64 v,.bool true],by simp[results,Tryz.results21,go_sem,d1,d2],⟨by rw[HD.out.2.2.1];rfl,HD.out.1.trans HD.out.2.1⟩⟩
end Go.Proofs.YtcagfamdoaoimaaGreatDoor
namespace Go.Proofs.YtcagfamdoaoimaaGreatDoor
open Go.RowKit
attribute [local go_sem] Oper.semAt_some
def wL (F:List Lf) (L:List Nd):Bool:=decide (F.length≤900)&&decide (L.length≤90000)&&L.all (fun x=>decide (x.fr≤F.length)&&decide (x.tt≤F.length)&&GT x.kd==0)&&F.all (fun y=>decide (y.tx.length≤900)&&decide (0≤y.fr)&&decide (y.fr≤1000000))
theorem AN {F:List Lf} {L:List Nd} (h:wL F L=true):xA F L:=by
  unfold wL at h;simp only[aT,bW,bS,aR] at h;obtain⟨⟨⟨h1,h2⟩,h3⟩,h4⟩:=h;exact⟨⟨h1,h2,fun x hx=>(h3 x hx).1,fun y hy=>(h4 y hy).1.1⟩,fun y hy=>⟨(h4 y hy).1.2,(h4 y hy).2⟩,fun k x hx hne=>absurd (h3 x (aO hx)).2 hne⟩
theorem Mm:wL (f9 [39,97,39]) (eP (f9 [39,97,39])).l=true:=by decide +kernel
theorem Ml:sf (Jc [39,97,39]) 0=some 2:=by decide +kernel
theorem Mj:pE (gU (jy [97,98,32,99,100] 2) (([97,98,32,99,100]:List UInt8).length:Int)) (([97,98,32,99,100]:List UInt8).length:Int) (sj (([97,98,32,99,100]:List UInt8).length:Int) 0)=3:=by decide +kernel
theorem awk29d:jy [97,98,32,99,100] 2=[3]:=by decide +kernel
theorem awk29e:uN [97,98,32,99,100] 2:=⟨rfl,by rw[awk29d];exact⟨by simp,fun x hx=>by rw[cE.1 hx];decide⟩,by decide +kernel,by decide⟩
theorem oS (w:World) :
    Calls Tryz.prog 18 #[] w fun e w'=>e=.returned (.bool true)∧Below w.heap.size w w':=by
  have h1:=Mu [39,97,39] (AN Mm) (by decide) 0 w;rw[Ml] at h1;have h2:=fun W=>rV [97,98,32,99,100] 0 2 awk29e W
  rw[Mj] at h2;have H:=aa (ac h1 h2);clear h1 h2;go_enter Tryz.func18,Tryz.ntmps18
  go_wp2_with (first
    | (go_at_call 21;refine H.out.1.mono ?_;rintro e w1 ⟨rfl,hb⟩;simp only[Option.getD_some,Option.isSome_some];have H1:=aa hb;clear hb)
    | (go_at_call 23;refine(H.out.2 _).mono ?_;rintro e w2 ⟨rfl,hb⟩;have H2:=aa hb;clear hb))
  go_ret;exact⟨rfl,H1.out.trans (H2.out.mono H1.out.size)⟩
end Go.Proofs.YtcagfamdoaoimaaGreatDoor
namespace Go.Proofs.YtcagfamdoaoimaaGreatDoor
theorem EL {L:List Nd} {N:Nat} (h:pa L) (h0:L[0]? = some ⟨1,0,N, -1⟩):∀(i:Nat) (x:Nd),L[i]? = some x→x.tt≤N:=by
  intro i
  induction i using Nat.strongRecOn with
  | ind i ih=>
    intro x hx;by_cases hi:i=0
    ·subst hi;rw[h0] at hx;injection hx with hx
     subst hx;exact au _
    ·obtain⟨u,m,_,hu,_,hm,_,h6,_⟩:=(h i x hx).u (by omega);exact aA h6 (ih u hu m hm)
theorem si (l:List UInt8):∀(ts:List Tk) (x:Nat),ve l ts x→(∀y∈fG l (ts.map uP),(x:Int)≤y.fr∧y.fr<(l.length:Int))∧(fG l (ts.map uP)).Pairwise (fun a b=>a.fr<b.fr)
  | [],x,_=>⟨fun y hy=>(by have hy:y∈([]:List Lf):=hy;cases hy),List.Pairwise.nil⟩
  | t::r,x,⟨h1,h2,h3,h4,h5,h6⟩=>by
    obtain⟨i1,i2⟩:=si l r t.to h6;have e:fG l ((t::r).map uP)=kK l (uP t)++fG l (r.map uP):=rfl;have ht:∀y∈kK l (uP t),y.fr=(x:Int):=fun y hy=>by
      have:=(yT hy).2.1
      rw[this];show (t.fr:Int)=_;omega
    rw[e];refine⟨fun y hy=>?_,?_⟩
    ·rcases aZ.1 hy with hy|hy
     ·have:=ht y hy;omega
     ·have:=i1 y hy;omega
    ·rw[dx];refine⟨?_,i2,fun a ha b hb=>?_⟩
     ·unfold kK;split<;>simp
     ·have:=ht a ha;have:=i1 b hb;omega
theorem li (l:List UInt8):(∀y∈f9 l,0≤y.fr∧y.fr<(l.length:Int))∧(f9 l).Pairwise (fun a b=>a.fr<b.fr):=si l _ 0 (q9 l)
end Go.Proofs.YtcagfamdoaoimaaGreatDoor
namespace Go.Proofs.YtcagfamdoaoimaaGreatDoor
def OwnQ (L:List Nd) (i p:Nat):Prop:=∀(k:Nat) (y:Nd),L[k]? = some y→y.up=(i:Int)→¬(y.fr≤p∧p<y.tt)
def RE (F:List Lf) (L:List Nd) (i:Nat) (sg:UInt8) (a k:Nat) (z:Int):Prop:=(∀p,a≤p→p<k→OwnQ L i p→sgnAt F p=sg→(p:Int)≤z)∧(z = -1∨∃j:Nat,z=(j:Int)∧a≤j∧j<k∧OwnQ L i j∧sgnAt F j=sg)
theorem RE.one {F:List Lf} {L:List Nd} {i:Nat} {sg:UInt8} {a k:Nat} {z z':Int} (h:RE F L i sg a k z) (h':RE F L i sg a k z'):z=z':=by
  rcases h.2 with rfl|⟨j,rfl,j1,j2,j3,j4⟩
  ·rcases h'.2 with rfl|⟨j,rfl,j1,j2,j3,j4⟩
   ·rfl
   ·have:=h.1 j j1 j2 j3 j4;omega
  ·have h1:=h'.1 j j1 j2 j3 j4;rcases h'.2 with rfl|⟨q,rfl,q1,q2,q3,q4⟩
   ·omega
   ·have:=h.1 q q1 q2 q3 q4;omega
theorem RE.start (F:List Lf) (L:List Nd) (i:Nat) (sg:UInt8) (a:Nat):RE F L i sg a a (-1):=⟨fun p h1 h2=>by omega,.inl rfl⟩
theorem RE.hit {F:List Lf} {L:List Nd} {i:Nat} {sg:UInt8} {a k:Nat} {z:Int} (h:RE F L i sg a k z) (hk:a≤k) (ho:OwnQ L i k) (hs:sgnAt F k=sg):RE F L i sg a (k+1) (k:Int):=
  ⟨fun p h1 h2 _ _=>by omega,.inr ⟨k,rfl,hk,by omega,ho,hs⟩⟩
theorem RE.miss {F:List Lf} {L:List Nd} {i:Nat} {sg:UInt8} {a k:Nat} {z:Int} (h:RE F L i sg a k z) (hn:¬(OwnQ L i k∧sgnAt F k=sg)):RE F L i sg a (k+1) z:=by
  refine⟨fun p h1 h2 h3 h4=>?_,?_⟩
  ·rcases bZ p k with h5|h5
   ·exact h.1 p h1 h5 h3 h4
   ·obtain rfl:p=k:=by omega
    exact absurd ⟨h3,h4⟩ hn
  ·rcases h.2 with rfl|⟨j,rfl,j1,j2,j3,j4⟩
   ·exact .inl rfl
   ·exact .inr ⟨j,rfl,j1,by omega,j3,j4⟩
theorem scan_at {F:List Lf} {sg:UInt8} {fo:Int} {a e:Nat}:scanF F sg fo a e=fo∨∃j:Nat,scanF F sg fo a e=(j:Int)∧a≤j∧j<e∧sgnAt F j=sg:=by
  unfold scanF;have key:∀(l:List Nat) (fo:Int),(∀p∈l,a≤p∧p<e)→l.foldl (fun fo p=>if (sgnAt F p==sg)=true then (p:Int) else fo) fo=fo∨∃j:Nat,l.foldl (fun fo p=>if (sgnAt F p==sg)=true then (p:Int) else fo) fo=(j:Int)∧a≤j∧j<e∧sgnAt F j=sg:=by
    intro l
    induction l with
    | nil=>intro fo _;exact .inl rfl
    | cons p r ih=>
      intro fo hl;rw[List.foldl_cons];have hp:=hl p (by simp);rcases ih (if (sgnAt F p==sg)=true then (p:Int) else fo) (fun q hq=>hl q (bG _ hq)) with h|h
      ·rw[h];by_cases hs:(sgnAt F p==sg)=true
       ·rw[aD hs];exact .inr ⟨p,rfl,hp.1,hp.2,by simpa using hs⟩
       ·rw[aB hs];exact .inl rfl
      ·exact .inr h
  exact key _ _ fun p hp=>by
    have:=List.mem_range'_1.1 hp
    omega
theorem scan_max {F:List Lf} {sg:UInt8} (fo:Int) {a p:Nat} (ha:a≤p) (hs:sgnAt F p=sg):∀n,(p:Int)≤scanF F sg fo a (p+1+n)
  | 0=>by
    rw[Nat.add_zero,scanF_succ F sg fo ha,aD (by rw[aR];exact hs)];exact Int.le_refl _
  | n+1=>by
    rw[show p+1+(n+1)=(p+1+n)+1 by omega,scanF_succ F sg fo (by omega:a≤p+1+n)]
    have:=scan_max fo ha hs n
    split
    ·omega
    ·exact this
theorem lastS_kept (F:List Lf) (sg:UInt8) (p:Nat):∀(G:List (Nat×Nat)) (s:Int×Nat),(p:Int)≤s.1→p<s.2→(∀g∈G,p<g.2)→(p:Int)≤(lastS F sg s G).1
  | [],s,h,_,_=>h
  | g::G,s,h,h2,hG=>by
    refine lastS_kept F sg p G (scanF F sg s.1 s.2 g.1,g.2) ?_ (hG g (by simp)) (fun g' hg=>hG g' (bG _ hg));rcases scan_at (F:=F) (sg:=sg) (fo:=s.1) (a:=s.2) (e:=g.1) with h1|⟨j,h1,h3,_⟩
    ·rw[h1];exact h
    ·rw[h1];omega
theorem lastS_max (F:List Lf) (sg:UInt8) (p:Nat) (hs:sgnAt F p=sg):∀(G:List (Nat×Nat)) (s:Int×Nat),s.2≤p→G.Pairwise (fun g g'=>g.2≤g'.1)→(∀g∈G,g.1≤g.2∧¬(g.1≤p∧p<g.2))→(∃g∈G,p<g.1)→(p:Int)≤(lastS F sg s G).1
  | [],s,_,_,_,h=>by obtain⟨g,hg,_⟩:=h;cases hg
  | g::G,s,h,hp,hG,hx=>by
    rw[cP] at hp;have hg:=hG g (by simp);by_cases hlt:p<g.1
    ·refine lastS_kept F sg p G (scanF F sg s.1 s.2 g.1,g.2) ?_ (by show p<g.2;omega) (fun g' hg'=>?_)
     ·have:=scan_max (F:=F) s.1 h hs (g.1-(p+1))
      rwa [show p+1+(g.1-(p+1))=g.1 by omega] at this
     ·have h1:=hp.1 g' hg';have h2:=hG g' (bG _ hg');omega
    ·refine lastS_max F sg p hs G (scanF F sg s.1 s.2 g.1,g.2) (by show g.2≤p;omega) hp.2 (fun g' hg'=>hG g' (bG _ hg')) ?_;obtain⟨g',h1,h2⟩:=hx;rcases br.1 h1 with rfl|h1
     ·exact absurd h2 hlt
     ·exact⟨g',h1,h2⟩
theorem lastS_in (F:List Lf) (sg:UInt8):∀(G:List (Nat×Nat)) (s:Int×Nat),G.Pairwise (fun g g'=>g.2≤g'.1)→(∀g∈G,s.2≤g.1∧g.1≤g.2) →
    (lastS F sg s G).1=s.1∨∃j:Nat,(lastS F sg s G).1=(j:Int)∧s.2≤j∧(∃g∈G,j<g.1)∧(∀g∈G,¬(g.1≤j∧j<g.2))∧sgnAt F j=sg
  | [],s,_,_=>.inl rfl
  | g::G,s,hp,hG=>by
    rw[cP] at hp;have hg:=hG g (by simp);rcases lastS_in F sg G (scanF F sg s.1 s.2 g.1,g.2) hp.2 (fun g' h=>⟨hp.1 g' h,(hG g' (bG _ h)).2⟩) with h|⟨j,h1,h2,⟨g',h3,h3'⟩,h4,h5⟩
    ·rcases scan_at (F:=F) (sg:=sg) (fo:=s.1) (a:=s.2) (e:=g.1) with h1|⟨j,h1,h2,h3,h4⟩
     ·exact .inl (h.trans h1)
     ·refine .inr ⟨j,h.trans h1,h2,⟨g,by simp,h3⟩,fun g' hg'=>?_,h4⟩;rcases br.1 hg' with rfl|hg'
      ·omega
      ·have:=hp.1 g' hg';omega
    ·have h2:g.2≤j:=h2;refine .inr ⟨j,h1,by omega,⟨g',bG _ h3,h3'⟩,fun k hk=>?_,h5⟩;rcases br.1 hk with rfl|hk
     ·omega
     ·exact h4 k hk
theorem segs_ok {L:List Nd} {N:Nat} (h:pa L) (h0:L[0]? = some ⟨1,0,N, -1⟩) {i:Nat} {x:Nd} (hx:L[i]? = some x) :
    (∀g∈segS L i x,x.fr≤g.1∧g.1≤g.2∧g.2≤x.tt)∧((segS L i x).Pairwise fun g g'=>g.2≤g'.1)∧(∀g∈segS L i x,(∃(k:Nat) (y:Nd),L[k]? = some y∧y.up=(i:Int)∧g=(y.fr,y.tt))∨g=(x.tt,x.tt))∧∀(k:Nat) (y:Nd),L[k]? = some y→y.up=(i:Int)→(y.fr,y.tt)∈segS L i x:=by
  have kid:∀(k:Nat) (y:Nd),L[k]? = some y→y.up=(i:Int)→0<k∧x.fr≤y.fr∧y.fr≤y.tt∧y.tt≤x.tt:=fun k y hy hu=>by
    have hk:0<k:=Nat.pos_of_ne_zero fun e=>by
      subst e;rw[h0] at hy
      cases hy
      have:(-1:Int)=(i:Int):=hu
      omega
    obtain⟨u,m,k1,_,_,k4,k5,k6,_⟩:=(h k y hy).u hk;obtain rfl:u=i:=by omega
    rw[hx] at k4
    cases k4;exact⟨hk,k5,(h k y hy).le,k6⟩
  have hin:∀k∈kidK L i L.length,∃y,L[k]? = some y∧y.up=(i:Int)∧ndAt L k=(y.fr,y.tt):=fun k hk=>by
    have hb:=(List.mem_filter.1 hk).2;unfold kidB at hb;split at hb
    ·rename_i y hy;exact⟨y,hy,by simpa using hb,by unfold ndAt;rw[hy]⟩
    ·cases hb
  have hle:∀g∈segS L i x,x.fr≤g.1∧g.1≤g.2∧g.2≤x.tt:=fun g hg=>by
    unfold segS at hg;rcases aZ.1 hg with hg|hg
    ·obtain⟨k,hk,rfl⟩:=bX.1 hg;obtain⟨y,hy,hu,e⟩:=hin k hk;rw[e]
     have:=kid k y hy hu
     exact this.2
    ·rw[cE.1 hg];exact⟨(h i x hx).le,au _,au _⟩
  have hpw:(segS L i x).Pairwise fun g g'=>g.2≤g'.1:=by
    unfold segS;rw[dx];refine⟨?_,by simp,fun g hg g' hg'=>?_⟩
    ·rw[List.pairwise_map];have hr:(kidK L i L.length).Pairwise (· < ·):=List.Pairwise.filter _ List.pairwise_lt_range;refine List.Pairwise.imp_of_mem ?_ hr;intro k k' hk hk' hkk;obtain⟨y,hy,hu,e⟩:=hin k hk;obtain⟨y',hy',hu',e'⟩:=hin k' hk';rw[e,e'];obtain⟨_,_,_,_,_,_,_,_,k7⟩:=(h k' y' hy').u (by omega);exact k7 k y (kid k y hy hu).1 hkk hy (by rw[hu,hu'])
    ·rw[cE.1 hg'];obtain⟨k,hk,rfl⟩:=bX.1 hg;obtain⟨y,hy,hu,e⟩:=hin k hk;rw[e]
     exact(kid k y hy hu).2.2.2
  refine⟨hle,hpw,fun g hg=>?_,fun k y hy hu=>?_⟩
  case refine_2=>
    unfold segS;refine List.mem_append_left _ (bX.2 ⟨k,?_,by unfold ndAt;rw[hy]⟩);unfold kidK;exact List.mem_filter.2 ⟨cI.2 (ay.1 hy).1,by unfold kidB;rw[hy];simp[hu]⟩
  unfold segS at hg;rcases aZ.1 hg with hg|hg
  ·obtain⟨k,hk,rfl⟩:=bX.1 hg;obtain⟨y,hy,hu,e⟩:=hin k hk;exact .inl ⟨k,y,hy,hu,e⟩
  ·exact .inr (cE.1 hg)
theorem last_re {F:List Lf} {L:List Nd} {N:Nat} (h:pa L) (h0:L[0]? = some ⟨1,0,N, -1⟩) {i:Nat} {x:Nd} (hx:L[i]? = some x):RE F L i (GT x.kd) x.fr x.tt (lastL F L i x):=by
  obtain⟨hle,hpw,hmem,hki⟩:=segs_ok h h0 hx;constructor
  ·intro p h1 h2 h3 h4;unfold lastL;refine lastS_max F (GT x.kd) p h4 _ _ h1 hpw (fun g hg=>⟨(hle g hg).2.1,fun hc=>?_⟩) ⟨(x.tt,x.tt),by unfold segS;simp,h2⟩;rcases hmem g hg with ⟨k,y,hy,hu,rfl⟩|rfl
   ·exact h3 k y hy hu hc
   ·exact absurd hc.1 (by show ¬x.tt≤p;omega)
  ·rcases lastS_in F (GT x.kd) (segS L i x) (-1,x.fr) hpw (fun g hg=>⟨(hle g hg).1,(hle g hg).2.1⟩) with hz|⟨j,hz,j1,⟨g,hg,j2⟩,j3,hs⟩
   ·exact .inl hz
   ·have:=hle g hg
    exact .inr ⟨j,hz,j1,by omega,fun k y hy hu=>j3 _ (hki k y hy hu),hs⟩
theorem leafZ_tx {l:List UInt8} {t:Tk} (h1:t.fr<t.to) (h2:t.to≤l.length) {y:Lf} (hy:y∈kK l (uP t)):y.fr=(t.fr:Int)∧y.tx.length=t.to-t.fr:=by
  unfold kK at hy;split at hy
  ·rename_i hc;rw[cE.1 hy];refine⟨rfl,?_⟩;show (Is l (uP t)).length=_;unfold Is;rw[aD hc.1];show (sub l (t.fr:Int).toNat (t.to:Int).toNat).length=_;rw[Int.toNat_natCast,Int.toNat_natCast];unfold sub;simp;omega
  ·cases hy
theorem qt_in {x:Lf} {p:Int×Int} (hp:p∈MM x):(x.fr≤p.1∧p.1<x.fr+(x.tx.length:Int))∧x.fr≤p.2∧p.2<x.fr+(x.tx.length:Int):=by
  unfold MM at hp;obtain⟨q,hq,hp⟩:=dG.1 hp;obtain⟨f,t,h1,h2,h3,h4,_⟩:=tP hq;unfold Ku at hp;split at hp
  ·cases hp
  ·rw[cE.1 hp];simp only;omega
theorem mateR_some {N:List (Int×Int)} {a v:Int} (h:sf N a=some v):∃p∈N,(a=p.1∧v=p.2)∨(a≠p.1∧a=p.2∧v=p.1):=by
  unfold sf at h;split at h
  ·rename_i p hp;have h1:=List.mem_of_find?_eq_some hp;have h2:=List.find?_some hp;simp only[dm,aR] at h2;injection h with h
   refine⟨p,h1,?_⟩;by_cases e:a=p.1
   ·rw[aD e] at h;exact .inl ⟨e,h.symm⟩
   ·rw[aB e] at h;exact .inr ⟨e,h2.resolve_left e,h.symm⟩
  ·cases h
theorem pair_ok (l:List UInt8) (hl:l.length≤900):xA (f9 l) (eP (f9 l)).l:=by
  obtain⟨r1,r2⟩:=li l;have hfb:=qD l hl;have htx:∀y∈f9 l,y.tx.length≤l.length:=fun y hy=>Bg l _ y hy
  generalize f9 l=F at *;obtain⟨h,r,hr⟩:=vA F;have h0:(eP F).l[0]? = some ⟨1,0,F.length, -1⟩:=by rw[hr];rfl
  have htt:=EL h h0;have hlen:=yz F;have hn:=hfb.n;have hnd:∀x∈(eP F).l,x.fr≤F.length∧x.tt≤F.length:=fun x hx=>by
    obtain⟨i,hi⟩:=dq.1 hx
    have:=htt i x hi
    have:=(h i x hi).le
    omega
  refine⟨⟨hn,by omega,hnd,fun y hy=>by have:=htx y hy;omega⟩,fun y hy=>by have:=r1 y hy;omega,fun k x hx hne h9=>?_⟩;have hN:=hnd x (aO hx);rcases (last_re (F:=F) h h0 hx).2 with hz|⟨j,hz,j1,j2,_⟩
  ·omega
  ·exact⟨_,_,j,ax (by omega),hz,ax (by omega)⟩
theorem frAt_pos (l:List UInt8) (p:Nat):0≤frAt (f9 l) p:=by
  unfold frAt;split
  ·rename_i y hy
   exact((li l).1 y (aO hy)).1
  ·exact Int.le_refl _
theorem mateR_pos {l:List UInt8} {a v:Int} (h:sf (Jc l) a=some v):0≤v:=by
  have key:∀p∈Jc l,0≤p.1∧0≤p.2:=fun p hp=>by
    unfold Jc at hp;rcases aZ.1 hp with hp|hp
    ·obtain⟨k,_,hp⟩:=dG.1 hp;unfold ndP at hp;split at hp
     ·split at hp
      ·cases hp
      ·split at hp
       ·rw[cE.1 hp];exact⟨frAt_pos l _,frAt_pos l _⟩
       ·cases hp
     ·cases hp
    ·obtain⟨x,hx,hp⟩:=dG.1 hp;have h0:=((li l).1 x hx).1;unfold KE at hp;split at hp
     ·have:=qt_in hp;omega
     ·cases hp
  obtain⟨p,hp,h1⟩:=mateR_some h
  have:=key p hp
  rcases h1 with ⟨_,rfl⟩|⟨_,_,rfl⟩
  ·exact this.2
  ·exact this.1
end Go.Proofs.YtcagfamdoaoimaaGreatDoor
