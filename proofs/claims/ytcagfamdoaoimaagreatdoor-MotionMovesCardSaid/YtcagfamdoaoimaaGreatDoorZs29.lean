/- The last step of a law: the call answered true and kept all that was there; so the row's post holds. -/
import Derived.Test.YtcagfamdoaoimaaGreatDoorRows
import Derived.Test.YtcagfamdoaoimaaGreatDoorRfy
import Derived.Test.YtcagfamdoaoimaaGreatDoorBv8
import Derived.Test.YtcagfamdoaoimaaGreatDoorQc13
import Derived.Test.YtcagfamdoaoimaaGreatDoorCls
import Derived.Test.YtcagfamdoaoimaaGreatDoorMem
import Derived.Test.YtcagfamdoaoimaaGreatDoorMo9
import Derived.Test.YtcagfamdoaoimaaGreatDoorPl13
import Derived.Test.YtcagfamdoaoimaaGreatDoorWs13
import Derived.Test.YtcagfamdoaoimaaGreatDoorSt13
import Derived.Test.YtcagfamdoaoimaaGreatDoorLv9
import Derived.WalkKit
import Derived.ProofKit
import Derived.OpenShut
import Derived.ShutString
import Derived.Below
import Derived.ChangeSame
set_option linter.unusedVariables false
set_option linter.unusedSimpArgs false
set_option maxRecDepth 100000
set_option maxHeartbeats 8000000
namespace Go.Proofs.YtcagfamdoaoimaaGreatDoor
open Go.RowKit
section
open Go.ChangeShapes Go.WideShapes Go.ChangeAt Go.RowKit
theorem Ng {H:Type} {enc:TypeId×Value→H} {f:Func} {s:ChangeSpec} {apart fresh handsOn again:Bool} {W W':World} {args:Array Value} {ds:List (DataW H)} {pl:List MemPlace}
    (hW:DataW.Whole enc Tryz.prog f.params.toList s.vars apart W args.toList ds [] pl) (hb:Below W.heap.size W W') (hv:s.vars=[])
    (hfn:s.fn H (ds++[])={results:=[.lit (.bool true)],args:=ds,vars:=[]}) (hres:f.resultTypes=#[4])
    (hargs:∀sp:Nat→Bool,(∀p∈pl,sp p.block=true)→DataW.TrodAll enc Tryz.prog W' 0 sp true f.params.toList args.toList ds pl) :
    s.post enc Tryz.prog f apart fresh handsOn again W args (.bool true) W':=by
  have old:∀p∈pl,p.block<W.heap.size:=fun p hp=>hW.lt p hp
  have hR:∀(b:Nat) (sp:Nat→Bool) (hd:Bool),DataW.TrodAll enc Tryz.prog W' b sp hd f.resultTypes.toList ((Value.bool true).resultList f.resultTypes.size) (s.fn H (ds++[])).results []:=by
    intro b sp hd;rw[hres,hfn];exact trodAll_cons_mk (shut_bool Tryz.underlying4 _) trodAll_mk0
  have hA:∀sp:Nat→Bool,(∀p∈pl,sp p.block=true)→DataW.TrodAll enc Tryz.prog W' 0 sp true f.params.toList args.toList (s.fn H (ds++[])).args pl:=by
    intro sp h;rw[hfn];exact hargs sp h
  have hV:∀sp:Nat→Bool,DataW.TrodVars enc Tryz.prog W' sp s.vars (s.fn H (ds++[])).vars []:=by
    intro sp;rw[hfn,hv];rfl
  refine⟨ds,[],pl,[],pl,[],hW,hR _ _ _,hA _ (fun p hp=>by simpa using old p hp),hV _,World.keptBut_mono (fun p hp=>⟨hp,?_⟩) (hb.frame (· ∈ pl)),fun _=>?_⟩
  ·simpa using hp
  ·obtain⟨_,_,_,_,_,hz,hn⟩:=hW;refine⟨?_,_,_,pl++[],⟨[]++pl,[],trodAll_append (hA _ (fun _ _=>rfl)) (hR _ _ _),hV _,by simp,?_,?_⟩,?_⟩
   ·exact ok_one (by rw[hres]) rfl (okWide_bool_mk Tryz.underlying4 _)
   ·intro b off hp;have hin:MemPlace.cell b off∈pl:=by simpa using hp
    rw[hb.frozen (old _ hin)];exact hz b off hin
   ·intro ha;simpa using hn ha
   ·intro p hp _;simpa using hp
end
section
open Go.RowKit
attribute [local go_sem] Oper.semAt_some
def xD (l:List Nat):List Value:=l.map fun (i:Nat)=>Value.int .i64 (i:Int)
theorem Gr (l:List Nat) (x:Nat):xD (l++[x])=xD l++xD [x]:=by simp[xD]
theorem Ly (l:List Nat):∀u∈xD l,u.oneCell'=true:=by
  intro u hu;obtain⟨x,_,rfl⟩:=bX.1 hu;rfl
theorem Tryz.infoInt29:(Tryz.prog.info? 3).map (fun i=>(i.zero,i.size,i.bytes))=some (some (.int .i64 0),1,8):=by kernel_rfl
def sB (gf:Nat) (lb:Array Value) (N:List Nat) (w:World):Prop:=
  (∀args w,(callFunc gf args).run Tryz.prog w=.ok (.enter gf args) w)∧∀W0,Below w.heap.size w W0→Kl Tryz.prog gf lb Bt (eN w.heap.size fun _=>False) (fun xs=>xs=N) (fun _=>True) N W0
theorem DX (gf:Nat) (lb:Array Value) (N:List Nat) (w:World) (hN:N.length≤100000) (hI:sB gf lb N w) :
    Calls Tryz.prog 74 #[.slice none 0 0,.func (.func gf) #[] lb] w fun e w'=>∃v,e=.returned v∧w'.ownsRow w.heap.size 3 1 v N.length (xD N)∧Below w.heap.size w w':=by
  obtain⟨i0,hi,hz0,hz1,hz2⟩:=cD Tryz.infoInt29;refine(aU (n:=5)).1 ?_;refine callsIn_of_wp_marks Tryz.func74 rfl trivial ?_ rfl;simp only[Tryz.ntmps74,bU,aP,bI,Nat.reduceAdd,Nat.reduceSub,bE,bF,bV,bJ,bT,bu];gi_wp2_with fail;obtain⟨W0,hW0⟩:∃W0,w.alloc (.cells #[.slice none 0 0] 35)=W0:=⟨_,rfl⟩;have bO:Boxed W0 w.heap.size 35 (.slice none 0 0):=by rw[←hW0];exact Boxed.new w _ _
  have hs0:W0.heap.size=w.heap.size+1:=by rw[←hW0];simp
  have hb0:Below w.heap.size w W0:=by rw[←hW0];exact(aC _ w).alloc (au _) _
  rw[hW0];clear hW0
  refine nG (by omega) (gf:=gf) (lb:=lb) rfl hI.1 (hI.2 W0 hb0) (fun h k=>h.trans k) (fun W l o o' hl h1 h2 h3=>oJ W l o o' (by omega) h1 h2 h3) (aC _ _) (fun _=>rfl)
    (fun X pre W=>Cb w.heap.size W0.heap.size w.heap.size 35 3 1 w pre.length (xD pre) X W)
    (fun _ _ _ _=>False)
    (Cb.fits (n:=fun pre:List Nat=>pre.length) (xs:=fun pre=>xD pre) (by omega)) (fun _ _ _ _ _ h _=>h) (fun X pre W W' row h hg hr=>Hh _ _ _ _ _ _ _ _ _ _ X (by omega) (au _) () W W' row h hg hr) (fun _ _ _ _ _ _ h _ _=>h)
    ⟨⟨_,bO,cj _ _ _ _,fun h=>h,fun _ _ h=>h⟩,hb0,au _,fun _ h=>h.elim⟩
    (fun x a' W=>a'={tmps:=#[.slice none 0 0,.func (.func gf) #[] lb,.pointer (some ⟨w.heap.size,0,none⟩),undef,.slice none 0 0,.int .i64 (x:Int),.func (.func gf) #[] lb,.int .i64 (x:Int),undef,undef,undef,undef,undef],defers:=[]})
    (fun x a'=>fun _ _ _ _ h _ _=>h) ?assign ?body ?done ?stop
  case assign=>
    intro l' X pre x W K hI hpx hK;gi_wp2;exact hK _ _ (ix (aC _ _)) (eN.refl _ _ _) (fun k hk=>rfl) hI rfl
  case body=>
    rintro l' X pre x a' W hl1 hl2 ⟨⟨v,hv,hrow,hnx⟩,hB,hS,hxb⟩ rfl hpx;have hlen:pre.length+1≤100000:=by have:=hpx.length_le;simp at this;omega
    have hc:=hv.cell;have hf:=hv.frozen;have hbxl:=Boxed.lt hv;gi_wp2_with (
      (gi_at_builtin;have hrd:=fQ W (xD [x]) 3 1 1 rfl (by omega);refine i6 _ rfl (.tmp 8) (.tmp 10) 35 rfl W0.heap.size 3 i0 _ 1 8 Tryz.underlying35 hi hz0 hz1 hz2 rfl (by decide) v pre.length (xD pre) rfl (hrow.alloc _) (.slice (some ⟨W.heap.size,0,none⟩) 1 1) 1 (W.heap.size+1) (xD [x]) rfl hrd (Ly _) (by unfold maxLen;omega) (by omega) (by rw[aV];omega) ?_;intro v6 w6 hown6 hg6 hv6;have k6:Bk w6 w.heap.size 35 #[v]:=Bk.overrow (w:=W.alloc _) (Bk.alloc hv _) (hrow.alloc _) hg6 (by decide);have c6:=Boxed.cell k6;have f6:=Boxed.frozen k6;obtain⟨A6,n6,c6',rfl⟩:=dR hown6;have H6:=aa (ac hown6 (ac hg6 hv6));clear hown6 hg6 hv6 k6 hrd))
    obtain⟨h6,hg6,hv6⟩:=H6.out;rw[←Gr,show pre.length+1=(pre++[x]).length by simp] at h6;exact Cb.app (M:=W0.heap.size) (n₀:=w.heap.size) (Xc:=fun _=>False) hv hrow hnx hB hS hxb (by decide) (au _) (by omega) (au _) (au _) ((aC _ _).alloc (au _) _) hg6 h6 hv6
  case done=>
    rintro D X ys W hD rfl ⟨⟨v,hv,hrow,hnx⟩,hB,hS,hxb⟩ hK;have hc:=hv.cell;have hbk:=belowK_b (w:=w) (au _) W D (.deferred (some [])) (.deferred none) (by omega) hK rfl rfl;have hrow3:=hrow.kept (grownBy_putObj' W D (.deferred none)) (.inr (fun e=>by have:=iz hrow e hK;cases this));have HD:=aa (ac hB (ac hbk hrow3));have HK2:=aa hK;clear hB hbk hrow hrow3 hv hK hnx hxb;gi_wp2;refine⟨by simp,.inl ⟨_,_,rfl,run_takeDeferred HK2.out,?_⟩⟩;exact⟨v,by simp[results,Tryz.results74,go_sem],⟨_,rfl,fK HD.out.2.2 (by omega),HD.out.1.trans HD.out.2.1⟩⟩
  case stop=>
    intro D c X pre W _ _ h _;exact h.elim
theorem uE (gf:Nat) (lb:Array Value) (N:List Nat) (w:World) (hN:N.length≤100000) (hI:sB gf lb N w) :
    Calls Tryz.prog 45 #[.func (.func gf) #[] lb] w fun e w'=>∃v,e=.returned v∧w'.ownsRow w.heap.size 3 1 v N.length (xD N)∧Below w.heap.size w w':=by
  have H:=aa (DX gf lb N w hN hI);clear hI;go_enter Tryz.func45,Tryz.ntmps45;go_wp2_with (
    (go_at_call 74;refine H.out.mono ?_;rintro e w2 ⟨v,rfl,h1,h2⟩;have H2:=aa (ac h1 h2);clear h1 h2))
  go_ret;exact⟨_,rfl,H2.out⟩
def jf (c:UInt8):Bool:=eT c==5||eT c==6
def jt (c:UInt8):Bool:=eT c==1||eT c==2
theorem BR (c:UInt8) (w:World):vZ 78 #[.int .u8 (c.toNat:Int)] w (.bool (jf c)):=by
  unfold jf;have hc:=sF c;generalize eT c=z at *;have H:=aa hc;clear hc
  cases hz:(z==5);all_goals (
    go_enter Tryz.func78,Tryz.ntmps78;go_wp2_with (go_at_call 120;refine(H.out _).mono ?_;rintro e w' ⟨rfl,rfl⟩);go_ret;exact⟨rfl,rfl⟩)
theorem Cz (c:UInt8) (w:World):vZ 80 #[.int .u8 (c.toNat:Int)] w (.bool (jt c)):=by
  unfold jt;have hc:=sF c;generalize eT c=z at *;have H:=aa hc;clear hc
  cases hz:(z==1);all_goals (
    go_enter Tryz.func80,Tryz.ntmps80;go_wp2_with (go_at_call 120;refine(H.out _).mono ?_;rintro e w' ⟨rfl,rfl⟩);go_ret;exact⟨rfl,rfl⟩)
def D5 (bf:Nat) (bg:UInt8→UInt8→Bool):Prop:=(∀args w,(callFunc bf args).run Tryz.prog w=.ok (.enter bf args) w)∧∀(a b:UInt8) (W:World),Calls Tryz.prog bf #[.int .u8 (a.toNat:Int),.int .u8 (b.toNat:Int)] W fun e w'=>e=.returned (.bool (bg a b))∧w'=W
theorem NM:D5 76 (fun _ _=>true):=⟨enters_of Tryz.func76 (by kernel_rfl) rfl,fun a b W=>by
  go_enter Tryz.func76,Tryz.ntmps76;go_wp2;go_ret;exact⟨rfl,rfl⟩⟩
theorem NL:D5 77 (fun a b => !jf a&&jf b):=⟨enters_of Tryz.func77 (by kernel_rfl) rfl,fun a b W=>by
  dsimp only;have h1:=BR a;have h2:=BR b;generalize jf a=x at *;generalize jf b=y at *;have H:=aa (ac h1 h2);clear h1 h2
  cases x;all_goals (
    go_enter Tryz.func77,Tryz.ntmps77;go_wp2_with (go_at_call 78;(first|(with_reducible refine(H.out.1 _).mono ?_)|(with_reducible refine(H.out.2 _).mono ?_));rintro e w' ⟨rfl,rfl⟩);go_ret;exact⟨rfl,rfl⟩)⟩
theorem NK:D5 79 (fun a b=>jt a && !jt b):=⟨enters_of Tryz.func79 (by kernel_rfl) rfl,fun a b W=>by
  dsimp only;have h1:=Cz a;have h2:=Cz b;generalize jt a=x at *;generalize jt b=y at *;have H:=aa (ac h1 h2);clear h1 h2
  cases x;all_goals (
    go_enter Tryz.func79,Tryz.ntmps79;go_wp2_with (go_at_call 80;(first|(with_reducible refine(H.out.1 _).mono ?_)|(with_reducible refine(H.out.2 _).mono ?_));rintro e w' ⟨rfl,rfl⟩);go_ret;exact⟨rfl,rfl⟩)⟩
theorem NJ:D5 81 (fun a _=>a==10):=⟨enters_of Tryz.func81 (by kernel_rfl) rfl,fun a b W=>by
  dsimp only;have h:=i7 a 10;go_enter Tryz.func81,Tryz.ntmps81;go_wp2;go_ret;exact⟨by first|rfl|(rw[←h];rfl),rfl⟩⟩
def DO (bg:UInt8→UInt8→Bool) (l:List UInt8) (i:Nat):Bool:=decide (1≤i)&&bg (l.getD (i-1) 0) (l.getD i 0)
def mF (bg:UInt8→UInt8→Bool) (l:List UInt8) (k:Nat):List Nat:=(List.range k).filter (DO bg l)
theorem vV (bg:UInt8→UInt8→Bool) (l:List UInt8) (k:Nat):mF bg l (k+1)=mF bg l k++(if DO bg l k=true then [k] else []):=by
  unfold mF;rw[List.range_succ,List.filter_append];congr 1;by_cases h:DO bg l k=true
  ·rw[aD h];simp[h]
  ·rw[aB h];simp[h]
theorem Hk (bg:UInt8→UInt8→Bool) (l:List UInt8) {k n:Nat} (h:k≤n):mF bg l k<+:mF bg l n:=by
  induction h with
  | refl=>exact List.prefix_refl _
  | step _ ih=>exact ih.trans ⟨_,(vV bg l _).symm⟩
theorem YC.one {l':Nat} {N:List Nat} {n₀:Nat} {Xc:Nat→Prop} {J Jx:(Nat→Prop)→List Nat→World→Prop} (hY:YC l' N n₀ Xc J Jx) {X:Nat→Prop} {pre:List Nat} {x:Nat} {W1:World} (hj:J X pre W1) (hN:pre++[x]<+:N) (m:Nat) :
    YieldAt Fence.wide m Tryz.prog l' (Bt x) W1 fun e W'=>∃bb:Bool,e=.returned (.bool bb)∧(bb=true→J X (pre++[x]) W')∧(bb=false→Jx X (pre++[x]) W')∧eN n₀ Xc W1 W'∧∀k,X k→W'.heap[k]? = W1.heap[k]? := by
  obtain⟨fn,tmps,assign,body,hy,hR⟩:=hY X pre x W1 hj hN m;refine⟨fn,tmps,assign,body,hy,hR.mono ?_⟩;rintro e W' (⟨rfl,h1,h2,h3⟩|⟨rfl,h1,h2,h3⟩)
  ·exact⟨true,rfl,fun _=>h1,fun h=>(by cases h),h2,h3⟩
  ·exact⟨false,rfl,fun h=>(by cases h),fun _=>h1,h2,h3⟩
theorem DL (n l' sb fb bf n₀:Nat) (bg:UInt8→UInt8→Bool) (hbf:D5 bf bg) (Xc:Nat→Prop) (l:List UInt8) (J Jx:(Nat→Prop)→List Nat→World→Prop) (hF:kH J) (hY:YC l' (mF bg l l.length) n₀ Xc J Jx) (hl:l.length≤900) (W:World) (hs:Bk W sb 9 #[.string ⟨l.toArray⟩]) (hs1:sb<n₀∧¬Xc sb) (hf:Bk W fb 107 #[.func (.func bf) #[] #[]]) (hf1:fb<n₀∧¬Xc fb) (wn:n₀≤W.heap.size) (h0:J (fun _=>False) [] W) :
    CallsIn Fence.wide n Tryz.prog 119 #[.func (.yield l') #[] #[],.pointer (some ⟨sb,0,none⟩),.pointer (some ⟨fb,0,none⟩)] W fun e W'=>(∃v,e=.returned v)∧((∃xs X,xs=mF bg l l.length∧J X xs W')∨(∃pre X,True∧Jx X pre W')):=by
  have hd0:=pN.start (Xc:=Xc) h0 (fun k hk=>hk.elim) wn;have HK:=aa (ac hY (ac hbf (ac hs (ac hf hd0))));have hsl:=hs.lt;have hfl:=hf.lt;clear hY hbf hs hf hd0 h0;refine dk Tryz.func119 rfl trivial ?_ rfl;simp only[Tryz.ntmps119,bU,aP,bI,Nat.reduceAdd,Nat.reduceSub,bE,bF,bV,bJ,bT,bu];gi_wp2_with fail;gi_loopw [4] (fun i wr=>∃(k:Nat) (X:Nat→Prop),1≤k∧(k≤l.length∨k=1)∧i=.int .i64 k∧pN J W wr n₀ Xc (fun _=>False) X (mF bg l k)) (fun i _=>l.length-(intOf i).toNat)
  case atStart=>exact⟨1,_,au _,.inr rfl,rfl,HK.out.2.2.2.2⟩
  case round=>
    obtain⟨k,X,hk1,hk2,rfl,hd⟩:=hrel;have hks:Bk wr sb 9 #[.string ⟨l.toArray⟩]:=(hd.kx.same sb hs1.1 hs1.2).trans HK.out.2.2.1;have hkf:Bk wr fb 107 #[.func (.func bf) #[] #[]]:=(hd.kx.same fb hf1.1 hf1.2).trans HK.out.2.2.2.1;have y0:wr.cell? ⟨sb,0,none⟩=some (.string ⟨l.toArray⟩):=by rw[hks.cell];rfl
    have y1:wr.cell? ⟨fb,0,none⟩=some (.func (.func bf) #[] #[]):=by rw[hkf.cell];rfl
    by_cases hkl:k<l.length
    ·obtain⟨a,ha⟩:∃a,l[k-1]? = some a:=⟨_,ax (by omega)⟩;obtain⟨b,hb⟩:∃b,l[k]? = some b:=⟨_,ax hkl⟩;have hB:DO bg l k=bg a b:=by unfold DO;rw[aG hk1,cK,aE,ha,aE,hb];rfl
     have hsuc:=vV bg l k;rw[hB] at hsuc;obtain⟨j,rfl⟩:∃j,k=j+1:=⟨k-1,by omega⟩;rw[dI] at ha;obtain⟨p1,p2⟩:=ay.1 ha;obtain⟨p3,p4⟩:=ay.1 hb;have q1:∃h:j<(ByteArray.mk l.toArray).size,(ByteArray.mk l.toArray)[j]'h=a:=⟨p1,p2⟩;have q2:∃h:j+1<(ByteArray.mk l.toArray).size,(ByteArray.mk l.toArray)[j+1]'h=b:=⟨p3,p4⟩;obtain⟨q3,q4⟩:=q1;obtain⟨q5,q6⟩:=q2;have u1:(j:Int)+1<(l.length:Int):=by omega
     have u2:(0:Int)≤(j:Int):=by omega
     have u3:(j:Int)<(l.length:Int):=by omega
     have u4:(0:Int)≤(j:Int)+1:=by omega
     have v1:IntKind.i64.wrap ((j:Int)+1-1)=(j:Int):=by rw[Int.add_sub_cancel];exact aS _ (by omega)
     have v2:IntKind.i64.wrap (j:Int)=(j:Int):=aS _ (by omega);have v3:IntKind.i64.wrap ((j:Int)+1+1)=(j:Int)+1+1:=aS _ (by omega);have hcl:=HK.out.2.1.2 a b;have he:=HK.out.2.1.1 #[.int .u8 (a.toNat:Int),.int .u8 (b.toNat:Int)] wr.drew;have hdq:=hd.below hF (aC _ wr).drew;have hpre:bg a b=true→mF bg l (j+1)++[j+1]<+:mF bg l l.length:=fun h=>by
       have:=Hk bg l (k:=j+1+1) (n:=l.length) (by omega)
       rw[hsuc,aD h] at this;exact this
     generalize bg a b=z at *;have HC:=aa (ac hcl (ac hdq hsuc));clear hcl hdq hsuc ha hb p2 p4 hB hd hks hkf hk2
     cases z
     ·clear hpre;gi_wp2_with fail;refine i5 0 12 (by kernel_rfl) (by kernel_rfl) fun K hK=>?_
      simp only[cF,List.take_zero,List.drop_succ_cons,dt] at hK ⊢;refine hK _ _ ?_;clear hK K
      repeat still_step
      still_call (Calls.mono (HC.out.1 _) (fun e w'' hh=>hh))
      repeat still_step
      try refine wpStill_nil ?_
      gi_wp2_with (first
        | ((with_reducible refine⟨fun f h=>?_,?_⟩);cases h))
      exact⟨⟨j+1+1,_,by omega,.inl (by omega),by go_num,by rw[HC.out.2.2,aB (by decide),bz];exact HC.out.2.1⟩,by simp[intOf];omega⟩
     ·obtain⟨fn,tmps,assign,body,hy,hR⟩:=HK.out.1.one HC.out.2.1.j (hpre rfl) (n-1);have hr8:=aa hR;simp only[Bt] at hy;rw[show ((j+1:Nat):Int)=(j:Int)+1 by omega] at hy;have hy8:=aa hy;clear hR hy hpre;gi_wp2_with fail;refine i5 0 12 (by kernel_rfl) (by kernel_rfl) fun K hK=>?_
      simp only[cF,List.take_zero,List.drop_succ_cons,dt] at hK ⊢;refine hK _ _ ?_;clear hK K
      repeat still_step
      still_call (Calls.mono (HC.out.1 _) (fun e w'' hh=>hh))
      repeat still_step
      try refine wpStill_nil ?_
      gi_wp2_with (first
        | (rw[hy8.out]))
      refine⟨fun h=>by simp[Fence.wide] at h,?_⟩;refine hr8.out.mono ?_;rintro e W7 ⟨b8,rfl,hj7,hjx7,hk7,hs7⟩
      cases b8
      ·have H8:=aa (hjx7 rfl);clear hj7 hjx7 hk7 hs7;gi_wp2_with fail;refine bn ?_;exact⟨⟨_,rfl⟩,.inr ⟨_,_,trivial,H8.out⟩⟩
      ·have H8:=aa (HC.out.2.1.next (hj7 rfl) hk7 hs7);clear hj7 hjx7 hk7 hs7;gi_wp2_with fail;exact⟨⟨j+1+1,_,by omega,.inl (by omega),by go_num,by rw[HC.out.2.2,aD (by trivial)];exact H8.out⟩,by simp[intOf];omega⟩
    ·have HE:=aa hd;clear hd hks hkf;have hkE:mF bg l k=mF bg l l.length:=by
       rcases hk2 with h|h
       ·rw[show k=l.length by omega]
       ·subst h;have h0:l.length=0∨l.length=1:=by omega
        rcases h0 with h|h<;>rw[h]<;>rfl
     have HX:=aa hkE;clear hkE hk2;gi_wp2_with fail;go_end0;exact⟨⟨_,rfl⟩,.inl ⟨_,X,rfl,by rw[←HX.out];exact HE.out.j⟩⟩
theorem Hj (l:List UInt8) (bf:Nat) (w:World) :
    Calls Tryz.prog 75 #[.string ⟨l.toArray⟩,.func (.func bf) #[] #[]] w fun e w'=>e=.returned (.func (.func 119) #[] #[.pointer (some ⟨w.heap.size,0,none⟩),.pointer (some ⟨w.heap.size+1,0,none⟩)])∧w'=(w.alloc (.cells #[.string ⟨l.toArray⟩] 9)).alloc (.cells #[.func (.func bf) #[] #[]] 107):=by
  go_enter Tryz.func75,Tryz.ntmps75;go_wp2;go_ret;exact⟨by simp,rfl⟩
theorem oR (l:List UInt8) (hl:l.length≤900) (bf:Nat) (bg:UInt8→UInt8→Bool) (hbf:D5 bf bg) (w:World) :
    Calls Tryz.prog 75 #[.string ⟨l.toArray⟩,.func (.func bf) #[] #[]] w fun e w'=>∃gf lb,e=.returned (.func (.func gf) #[] lb)∧sB gf lb (mF bg l l.length) w'∧Below w.heap.size w w':=by
  refine(Hj l bf w).mono ?_;rintro e w' ⟨rfl,hw⟩;have hs:w'.heap.size=w.heap.size+2:=by rw[hw];simp
  have k1:Bk w' w.heap.size 9 #[.string ⟨l.toArray⟩]:=by rw[hw];exact(Bk.new w _ _).alloc _
  have k2:Bk w' (w.heap.size+1) 107 #[.func (.func bf) #[] #[]]:=by rw[hw];exact fH w _ _ _ _
  refine⟨_,_,rfl,⟨enters_of Tryz.func119 (by kernel_rfl) rfl,fun W0 hW0=>?_⟩,by rw[hw];exact((aC _ w).alloc (au _) _).alloc (by simp) _⟩;intro n l' J Jx W hW hF _ hY hJ;have hb:=hW0.trans (hW.mono hW0.size);exact DL n l' _ _ bf w'.heap.size bg hbf _ l J Jx hF hY hl W (k1.below hb k1.lt) ⟨by omega,fun h=>h⟩ (k2.below hb k2.lt) ⟨by omega,fun h=>h⟩ hb.size hJ
theorem mX {α β:Type} (g:α→List β) {F:List α} {k:Nat} {x:α} (h:F[k]? = some x):(F.take (k+1)).flatMap g=(F.take k).flatMap g++g x:=by
  rw[List.take_add_one,h,List.flatMap_append];simp
theorem nS {α β:Type} (g:α→List β) (F:List α) (k:Nat):(F.take k).flatMap g<+:F.flatMap g:=by
  refine⟨(F.drop k).flatMap g,?_⟩;rw[←List.flatMap_append,dr]
def zU (x:Lf):List Nat:=if x.kd=2 then [] else [x.fr.toNat]
def Ik (l:List UInt8):List Nat:=(f9 l).flatMap zU
theorem yT {l:List UInt8} {t:Tz} {x:Lf} (h:x∈kK l t):0≤x.fr∧x.fr=t.fr∧x.kd=t.kd∧x.to=t.to:=by
  unfold kK at h;split at h
  ·rename_i hc;simp only[cE] at h;subst h;have h1:=hc.1;unfold yZ at h1;simp only[aT,bW] at h1;exact⟨h1.1.1,rfl,rfl,rfl⟩
  ·simp at h
theorem Ck (l:List UInt8):∀x∈f9 l,0≤x.fr:=fun x hx=>by
  obtain⟨t,_,ht⟩:=dG.1 hx
  exact(yT ht).1
theorem Ds (n l' Bn n₀:Nat) (Xc:Nat→Prop) (l:List UInt8) (J Jx:(Nat→Prop)→List Nat→World→Prop) (hF:kH J) (hY:YC l' (Ik l) n₀ Xc J Jx) (hl:l.length≤900) (W:World) (hBn:Bk W Bn 9 #[.string ⟨l.toArray⟩]) (hB1:Bn<n₀∧¬Xc Bn) (wn:n₀≤W.heap.size) (h0:J (fun _=>False) [] W) :
    CallsIn Fence.wide n Tryz.prog 121 #[.func (.yield l') #[] #[],.pointer (some ⟨Bn,0,none⟩)] W fun e W'=>(∃v,e=.returned v)∧((∃xs X,xs=Ik l∧J X xs W')∨(∃pre X,True∧Jx X pre W')):=by
  obtain⟨F,hFe⟩:∃F,F=f9 l:=⟨_,rfl⟩;obtain⟨ts,hts⟩:∃ts,ts=(iX l).1:=⟨_,rfl⟩;have hfb:=qD l hl;have c1:=fun W=>KG l W hl
  have c2:=fun (A:Option Addr) (c:Nat) W (hR:Rd W W.heap.size 4 (.slice A ((iX l).1.map uP).length c) ((iX l).1.map uP).length (((iX l).1.map uP).flatMap Mw))=>yS l ((iX l).1.map uP) A c W (by omega) (by rw[cH];have:=qG l;omega) hR
  rw[show fG l ((iX l).1.map uP)=f9 l from rfl] at c2;rw[cH,←xL] at c2;have hFn:=hfb.n;have hfr:=Ck l;have hlv:Ik l=F.flatMap zU:=by rw[hFe];rfl
  clear hfb;rw[←hts] at c1 c2;rw[←hFe] at c2 hFn hfr;rw[hlv] at hY;obtain⟨Y,hYY⟩:∃Y,Y=(iX l).2:=⟨_,rfl⟩;rw[←hYY] at c1;have y0:W.cell? ⟨Bn,0,none⟩=some (.string ⟨l.toArray⟩):=by rw[hBn.cell];rfl
  have hBlt:=hBn.lt;have HC:=aa (ac c1 c2);have HK:=aa (ac hY (ac hBn (ac h0 (ac hfr hlv))));clear c1 c2 hFe hts hYY hY hBn hB1 h0 hfr hlv;refine dk Tryz.func121 rfl trivial ?_ rfl;simp only[Tryz.ntmps121,bU,aP,bI,Nat.reduceAdd,Nat.reduceSub,bE,bF,bV,bJ,bT,bu]
  gi_wp2_with (first
    | (refine⟨trivial,fun h=>by simp[Fence.wide] at h,?_⟩;gi_at_call 31;refine(aU.2 (HC.out.1 _)).mono ?_;rintro e w1 ⟨v1,v2,rfl,ho,⟨v3,rfl,hr⟩,hb⟩;obtain⟨A1,n1,c1,rfl⟩:=dR ho;obtain rfl:=ei ho;obtain⟨A3,c3,rfl⟩:=hr.form;unfold ik;have hba:Below w1.heap.size w1 (w1.alloc (.cells #[.int .i64 Y.aw,.slice A3 Y.pd.length c3,.bool Y.bd] 49)):=(aC _ w1).alloc (au _) _;have k0:=(HK.out.2.1.below hb hBlt).below hba (by have:=hb.size;omega);have y0:(w1.alloc (.cells #[.int .i64 Y.aw,.slice A3 Y.pd.length c3,.bool Y.bd] 49)).cell? ⟨Bn,0,none⟩=some (.string ⟨l.toArray⟩):=by rw[k0.cell];rfl
       have H1:=aa (ac (dS ho hba) (hb.trans (hba.mono hb.size)));clear ho hb hr hba k0)
    | (refine⟨trivial,fun h=>by simp[Fence.wide] at h,?_⟩;gi_at_call 32;refine(aU.2 (HC.out.2 _ _ _ (Rd.of_own H1.out.1))).mono ?_;rintro e w2 ⟨v2,rfl,ho,hb⟩;obtain⟨A4,n4,c4,rfl⟩:=dR ho;obtain rfl:=ei ho;have H2:=aa (ac (fK ho H1.out.2.size) (H1.out.2.trans (hb.mono H1.out.2.size)));clear ho hb))
  have hd0:=(pN.start (Xc:=Xc) HK.out.2.2.1 (fun k hk=>hk.elim) wn).below hF H2.out.2;have hx0:∀k,(Value.slice A4 F.length c4).ownBlock=some k→iV (fun _=>False) W w2 k:=fun k hk=>.inr (H2.out.1.lt k hk)
  have HS:=aa (ac hd0 hx0);clear hd0 hx0 y0;gi_loopw [16] (fun i wr=>∃(f:Nat) (X:Nat→Prop),f≤F.length∧i=.int .i64 f∧pN J W wr n₀ Xc (fun _=>False) X ((F.take f).flatMap zU)∧wr.ownsRow W.heap.size 29 4 (.slice A4 F.length c4) F.length (iF F)∧∀k,(Value.slice A4 F.length c4).ownBlock=some k→X k) (fun i _=>F.length-(intOf i).toNat)
  case atStart=>exact⟨0,_,bv _,rfl,HS.out.1,H2.out.1,HS.out.2⟩
  case round=>
    obtain⟨f,X,hf,rfl,hd,ho,hxo⟩:=hrel;by_cases hfl:f<F.length
    ·have v0:(f:Int)<(F.length:Int):=by omega
     have v00:(0:Int)≤(f:Int):=by omega
     obtain⟨t,ht⟩:∃t,F[f]? = some t:=⟨_,ax hfl⟩;obtain⟨g1,o1,rfl,hg1,hc1⟩:=iK (lay:=LJ) (fun _=>rfl) (Rd.of_own ho) ht rfl;have q0:wr.cell? ⟨g1,o1+f*4,none⟩=some (.int .i64 t.kd):=hc1 0 _ rfl;have q1:wr.cell? ⟨g1,o1+f*4+1,none⟩=some (.string ⟨t.tx.toArray⟩):=hc1 1 _ rfl;have q2:wr.cell? ⟨g1,o1+f*4+2,none⟩=some (.int .i64 t.fr):=hc1 2 _ rfl;have q3:wr.cell? ⟨g1,o1+f*4+3,none⟩=some (.int .i64 t.to):=hc1 3 _ rfl;have hfr:=HK.out.2.2.2.1 t (aO ht);have hsuc:=mX zU ht;have hpre:=nS zU F (f+1);obtain⟨wo,hwo⟩:∃wo:World,wo=wr.alloc (.cells #[.int .i64 t.kd,.string ⟨t.tx.toArray⟩,.int .i64 t.fr,.int .i64 t.to] 29):=⟨_,rfl⟩;have hbo:Below wr.heap.size wr wo:=by rw[hwo];exact(aC _ _).alloc (au _) _
     have hdo:=hd.below hF hbo;have hoo:=dS ho hbo;have HR:=aa (ac hdo (ac hoo (ac (show ∀k,(Value.slice (some ⟨g1,o1,none⟩) F.length c4).ownBlock=some k→iV X wr wo k from fun k hk=>.inl (hxo k hk)) hsuc)));clear hc1 hg1 ht hbo hdo hoo hd ho hxo;by_cases h2:t.kd=2
     ·have t1:(t.kd != 2)=false:=by simp[h2]
      have hs2:=HR.out.2.2.2;rw[show zU t=[] by unfold zU;rw[aD h2],bz] at hs2;have HX:=aa hs2;clear hs2 hsuc hpre h2
      gi_wp2_with (first
        | ((with_reducible refine⟨fun f h=>?_,?_⟩);cases h))
      rw[←hwo];exact⟨⟨f+1,_,by omega,by go_num,by rw[HX.out];exact HR.out.1,HR.out.2.1,HR.out.2.2.1⟩,by simp[intOf];omega⟩
     ·have t1:(t.kd != 2)=true:=by simp[h2]
      have e1:zU t=[t.fr.toNat]:=by unfold zU;rw[aB h2]
      rw[e1] at hsuc;rw[hsuc] at hpre;obtain⟨fn,tmps,assign,body,hy,hR⟩:=HK.out.1 _ _ t.fr.toNat wo HR.out.1.j hpre (n-1);have hR2:=aa hR;simp only[Bt] at hy;rw[Int.toNat_of_nonneg hfr] at hy;rw[hwo] at hy;have hy2:=aa hy;have HX:=aa hsuc;clear hR hy hpre h2 hsuc e1;gi_wp2_with fail;rw[hy2.out];gi_wp2_with fail;refine⟨fun h=>by simp[Fence.wide] at h,?_⟩;rw[←hwo];refine hR2.out.mono ?_;rintro e W3 (⟨rfl,hJ3,hk3,hx3⟩|⟨rfl,hJx3,hk3,hx3⟩)
      ·have H3:=aa (ac (HR.out.1.next hJ3 hk3 hx3) (lp HR.out.2.1 fun k hk=>hx3 k (HR.out.2.2.1 k hk)));clear hJ3 hk3 hx3;gi_wp2_with fail;exact⟨⟨f+1,_,by omega,by go_num,by rw[HX.out];exact H3.out.1,H3.out.2,HR.out.2.2.1⟩,by simp[intOf];omega⟩
      ·have H3:=aa hJx3;clear hJx3 hk3 hx3;gi_wp2_with fail;refine bn ?_;exact⟨⟨_,rfl⟩,.inr ⟨_,_,trivial,H3.out⟩⟩
    ·obtain rfl:f=F.length:=by omega
     have HE:=aa hd;clear hd ho hxo;gi_wp2_with fail;go_end0;refine⟨⟨_,rfl⟩,.inl ⟨X,?_⟩⟩;rw[HK.out.2.2.2.2]
     have:=HE.out.j
     rwa [dy] at this
theorem F9 (l:List UInt8) (w:World) :
    Calls Tryz.prog 82 #[.string ⟨l.toArray⟩] w fun e w'=>e=.returned (.func (.func 121) #[] #[.pointer (some ⟨w.heap.size,0,none⟩)])∧w'=w.alloc (.cells #[.string ⟨l.toArray⟩] 9):=by
  go_enter Tryz.func82,Tryz.ntmps82;go_wp2;go_ret;exact⟨rfl,rfl⟩
theorem Dr (l:List UInt8) (hl:l.length≤900) (w:World) :
    Calls Tryz.prog 82 #[.string ⟨l.toArray⟩] w fun e w'=>∃gf lb,e=.returned (.func (.func gf) #[] lb)∧sB gf lb (Ik l) w'∧Below w.heap.size w w':=by
  refine(F9 l w).mono ?_;rintro e w' ⟨rfl,hw⟩;have hs:w'.heap.size=w.heap.size+1:=by rw[hw];simp
  have k1:Bk w' w.heap.size 9 #[.string ⟨l.toArray⟩]:=by rw[hw];exact Bk.new w _ _
  refine⟨_,_,rfl,⟨enters_of Tryz.func121 (by kernel_rfl) rfl,fun W0 hW0=>?_⟩,by rw[hw];exact(aC _ w).alloc (au _) _⟩;intro n l' J Jx W hW hF _ hY hJ;have hb:=hW0.trans (hW.mono hW0.size);exact Ds n l' _ w'.heap.size _ l J Jx hF hY hl W (k1.below hb k1.lt) ⟨by omega,fun h=>h⟩ hb.size hJ
def zY (L:List Nd) (x:Nd):Bool:=match L[x.up.toNat]? with|some u=>u.kd==2&&u.up==0|none=>false
def lE (L:List Nd) (i:Nat):Bool:=match L[i]? with|some x=>x.kd==3&&decide (1≤x.up)&&decide (x.up<(L.length:Int))&&zY L x|none=>false
def nB (L:List Nd) (k:Nat):List Nat:=(List.range k).filter (lE L)
theorem vL (p:Nat→Bool) (k:Nat):(List.range (k+1)).filter p=(List.range k).filter p++(if p k=true then [k] else []):=by
  rw[List.range_succ,List.filter_append];congr 1;by_cases h:p k=true
  ·rw[aD h];simp[h]
  ·rw[aB h];simp[h]
theorem GF (p:Nat→Bool) {k n:Nat} (h:k≤n):(List.range k).filter p<+:(List.range n).filter p:=by
  induction h with
  | refl=>exact List.prefix_refl _
  | step _ ih=>exact ih.trans ⟨_,(vL p _).symm⟩
theorem zv (p:Nat→Bool) (k:Nat):((List.range k).filter p).length≤k:=by
  have:=List.length_filter_le p (List.range k)
  rwa [List.length_range] at this
theorem Iz {L:List Nd} {i:Nat} {x:Nd} (h:L[i]? = some x):lE L i=(x.kd==3&&decide (1≤x.up)&&decide (x.up<(L.length:Int))&&zY L x):=by unfold lE;rw[h]
theorem Iw (n l' bx c n₀:Nat) (L:List Nd) (A:Option Addr) (J Jx:(Nat→Prop)→List Nat→World→Prop) (hF:kH J) (hY:YC l' (nB L L.length) n₀ (fun _=>False) J Jx) (hL:L.length≤90000) (W:World) (hBn:Bk W bx 24 #[.slice A L.length c]) (hB1:bx<n₀) (hR:Rd W n₀ 4 (.slice A L.length c) L.length (gQ L)) (wn:n₀≤W.heap.size) (h0:J (fun _=>False) [] W) :
    CallsIn Fence.wide n Tryz.prog 191 #[.func (.yield l') #[] #[],.pointer (some ⟨bx,0,none⟩)] W fun e W'=>(∃v,e=.returned v)∧((∃xs X,xs=nB L L.length∧J X xs W')∨(∃pre X,True∧Jx X pre W')):=by
  have hd0:=pN.start (Xc:=fun _=>False) h0 (fun k hk=>hk.elim) wn;have y0:W.cell? ⟨bx,0,none⟩=some (.slice A L.length c):=by rw[hBn.cell];rfl
  have HK:=aa (ac hY (ac hBn (ac hR hd0)));clear hY hBn hR hd0 h0;refine dk Tryz.func191 rfl trivial ?_ rfl;simp only[Tryz.ntmps191,bU,aP,bI,Nat.reduceAdd,Nat.reduceSub,bE,bF,bV,bJ,bT,bu];gi_wp2_with fail;clear y0;gi_loopw [8] (fun i wr=>∃(k:Nat) (X:Nat→Prop),k≤L.length∧i=.int .i64 k∧pN J W wr n₀ (fun _=>False) (fun _=>False) X (nB L k)) (fun i _=>L.length-(intOf i).toNat)
  case atStart=>exact⟨0,_,bv _,rfl,HK.out.2.2.2⟩
  case round=>
    obtain⟨k,X,hk,rfl,hd⟩:=hrel;have hkb:Bk wr bx 24 #[.slice A L.length c]:=(hd.kx.same bx hB1 (fun h=>h)).trans HK.out.2.1;have hbl:=hkb.lt;by_cases hlt:k<L.length
    ·have u1:(k:Int)<(L.length:Int):=by omega
     have u2:(0:Int)≤(k:Int):=by omega
     obtain⟨x,hx⟩:∃x,L[k]? = some x:=⟨_,ax hlt⟩;obtain⟨g,o,rfl,hgl,hc⟩:=iK jk HK.out.2.2.1 hx rfl;have hgw:g<wr.heap.size:=by have:=hd.kx.size;omega
     obtain⟨K,hK⟩:∃K:Int,K=(x.kd:Int):=⟨_,rfl⟩;obtain⟨up,hup⟩:∃up:Int,up=x.up:=⟨_,rfl⟩;have z0:wr.cell? ⟨g,o+k*4,none⟩=some (.int .i64 K):=by rw[hK];exact(hd.kx.cell hgl (fun h=>h) _).trans (hc 0 _ rfl)
     have z1:wr.cell? ⟨g,o+k*4+1,none⟩=some (.int .i64 (x.fr:Int)):=(hd.kx.cell hgl (fun h=>h) _).trans (hc 1 _ rfl);have z2:wr.cell? ⟨g,o+k*4+2,none⟩=some (.int .i64 (x.tt:Int)):=(hd.kx.cell hgl (fun h=>h) _).trans (hc 2 _ rfl);have z3:wr.cell? ⟨g,o+k*4+3,none⟩=some (.int .i64 up):=by rw[hup];exact(hd.kx.cell hgl (fun h=>h) _).trans (hc 3 _ rfl)
     have z4:wr.cell? ⟨bx,0,none⟩=some (.slice (some ⟨g,o,none⟩) L.length c):=by rw[hkb.cell];rfl
     have hsuc:=vL (lE L) k;have htb:=Iz hx;rw[←hup] at htb;have hpre:=GF (lE L) (k:=k+1) (n:=L.length) (by omega);obtain⟨wo,hwo⟩:∃wo:World,wo=wr.alloc (.cells #[.int .i64 K,.int .i64 (x.fr:Int),.int .i64 (x.tt:Int),.int .i64 up] 56):=⟨_,rfl⟩;have hbo:Below wr.heap.size wr wo:=by rw[hwo];exact(aC _ _).alloc (au _) _
     have hdo:=hd.below hF hbo;by_cases h3:x.kd=3∧1≤up∧up<(L.length:Int)
     ·obtain⟨h3,h1,hul⟩:=h3;obtain rfl:K=3:=by omega
      have t2:decide (up<1)=false:=by simp;omega
      have t3:decide ((L.length:Int)≤up)=false:=by simp;omega
      obtain⟨u,hu⟩:∃u:Nat,up=(u:Int):=⟨up.toNat,by omega⟩;obtain⟨y,hy⟩:∃y,L[u]? = some y:=⟨_,ax (by omega)⟩;obtain⟨_,_,he,_,hc2⟩:=iK jk HK.out.2.2.1 hy rfl
      cases he;have htx:zY L x=(y.kd==2&&y.up==0):=by unfold zY;rw[←hup,hu,Int.toNat_natCast,hy]
      rw[htx,show (x.kd==3)=true by simp[h3],show decide (1≤up)=true by simpa using h1,show decide (up<(L.length:Int))=true by simpa using hul] at htb;simp only[cK] at htb;obtain⟨K2,hK2⟩:∃K2:Int,K2=(y.kd:Int):=⟨_,rfl⟩;obtain⟨U2,hU2⟩:∃U2:Int,U2=y.up:=⟨_,rfl⟩;have x0:wr.cell? ⟨g,o+u*4,none⟩=some (.int .i64 K2):=by rw[hK2];exact(hd.kx.cell hgl (fun h=>h) _).trans (hc2 0 _ rfl)
      have x1:wr.cell? ⟨g,o+u*4+1,none⟩=some (.int .i64 (y.fr:Int)):=(hd.kx.cell hgl (fun h=>h) _).trans (hc2 1 _ rfl);have x2:wr.cell? ⟨g,o+u*4+2,none⟩=some (.int .i64 (y.tt:Int)):=(hd.kx.cell hgl (fun h=>h) _).trans (hc2 2 _ rfl);have x3:wr.cell? ⟨g,o+u*4+3,none⟩=some (.int .i64 U2):=by rw[hU2];exact(hd.kx.cell hgl (fun h=>h) _).trans (hc2 3 _ rfl)
      have u3:(u:Int)<(L.length:Int):=by omega
      have u4:(0:Int)≤(u:Int):=by omega
      subst hu;obtain⟨w2,hw2⟩:∃w2:World,w2=wo.alloc (.cells #[.int .i64 K2,.int .i64 (y.fr:Int),.int .i64 (y.tt:Int),.int .i64 U2] 56):=⟨_,rfl⟩;have hb2:Below wo.heap.size wo w2:=by rw[hw2];exact(aC _ _).alloc (au _) _
      have hd2:=hdo.below hF hb2;rw[hwo] at hw2;by_cases hyes:y.kd=2∧y.up=0
      ·obtain rfl:K2=2:=by omega
       obtain rfl:U2=0:=by omega
       rw[show (y.kd==2&&y.up==0)=true by simp[hyes.1,hyes.2]] at htb;rw[aD htb] at hsuc;rw[hsuc] at hpre;obtain⟨fn,tmps,assign,body,hyy,hRR⟩:=HK.out.1 _ _ k w2 hd2.j hpre (n-1);have hR2:=aa hRR;simp only[Bt] at hyy;rw[hw2] at hyy;have hy2:=aa hyy;have HX:=aa (ac hsuc hd2);clear hRR hyy hpre hsuc hd2 hdo hd hb2 hbo hc hc2 htb htx hyes hK2 hU2 hy hx hkb hK hup h3 hwo;gi_wp2_with fail;rw[hy2.out];gi_wp2_with fail;refine⟨fun h=>by simp[Fence.wide] at h,?_⟩;rw[←hw2];refine hR2.out.mono ?_;rintro e W3 (⟨rfl,hJ3,hk3,hx3⟩|⟨rfl,hJx3,hk3,hx3⟩)
       ·have H3:=aa (HX.out.2.next hJ3 hk3 hx3);clear hJ3 hk3 hx3;gi_wp2_with fail;exact⟨⟨k+1,_,by omega,by go_num,by unfold nB;rw[HX.out.1];exact H3.out⟩,by simp[intOf];omega⟩
       ·have H3:=aa hJx3;clear hJx3 hk3 hx3;gi_wp2_with fail;refine bn ?_;exact⟨⟨_,rfl⟩,.inr ⟨_,_,trivial,H3.out⟩⟩
      ·have hno:(y.kd==2&&y.up==0)=false:=by
         rw[Bool.and_eq_false_iff];by_cases h:y.kd=2
         ·exact .inr (aJ (fun e=>hyes ⟨h,e⟩))
         ·exact .inl (aJ h)
       rw[hno] at htb;rw[aB (by rw[htb];decide),bz] at hsuc;have HX:=aa (ac hsuc hd2);have hw3:(K2==2)=false∨(K2=2∧(U2==0)=false):=by
         by_cases h:y.kd=2
         ·exact .inr ⟨by omega,aJ (fun e=>hyes ⟨h,by omega⟩)⟩
         ·exact .inl (aJ (by omega))
       clear hpre hsuc hd2 hdo hd hb2 hbo hc hc2 htb htx hyes hno hK2 hU2 hy hx hkb hK hup h3 hwo;rcases hw3 with h|⟨rfl,h⟩
       all_goals (
         gi_wp2_with (first
           | ((with_reducible refine⟨fun f h=>?_,?_⟩);cases h))
         rw[←hw2];exact⟨⟨k+1,_,by omega,by go_num,by unfold nB;rw[HX.out.1];exact HX.out.2⟩,by simp[intOf];omega⟩)
     ·have hno:lE L k=false:=by
        rw[htb];by_cases h:x.kd=3
        ·by_cases h':1≤up
         ·rw[show decide (up<(L.length:Int))=false from aL (fun e=>h3 ⟨h,h',e⟩)];simp
         ·rw[show decide (1≤up)=false from aL h'];simp
        ·rw[show (x.kd==3)=false from aJ h];rfl
      rw[aB (by rw[hno];decide),bz] at hsuc;have HX:=aa (ac hsuc hdo);have hw3:(K != 3)=true∨(K=3∧decide (up<1)=true)∨(K=3∧decide (up<1)=false∧decide ((L.length:Int)≤up)=true):=by
        by_cases h:x.kd=3
        ·obtain rfl:K=3:=by omega
         by_cases h':1≤up
         ·exact .inr (.inr ⟨rfl,by simp;omega,by simp;exact Int.not_lt.1 (fun e=>h3 ⟨h,h',e⟩)⟩)
         ·exact .inr (.inl ⟨rfl,by simp;omega⟩)
        ·exact .inl (by simp;omega)
      clear hpre hsuc hdo hd hbo hc htb hno hK hup hx hkb h3;rcases hw3 with h|⟨rfl,h⟩|⟨rfl,h,h'⟩
      all_goals (
        gi_wp2_with fail;rw[←hwo];exact⟨⟨k+1,_,by omega,by go_num,by unfold nB;rw[HX.out.1];exact HX.out.2⟩,by simp[intOf];omega⟩)
    ·obtain rfl:k=L.length:=by omega
     have HE:=aa hd;clear hd hkb;gi_wp2_with fail;go_end0;exact⟨⟨_,rfl⟩,.inl ⟨X,HE.out.j⟩⟩
theorem KY (A:Option Addr) (n c:Nat) (w:World) :
    Calls Tryz.prog 151 #[.slice A n c] w fun e w'=>e=.returned (.func (.func 191) #[] #[.pointer (some ⟨w.heap.size,0,none⟩)])∧w'=w.alloc (.cells #[.slice A n c] 24):=by
  go_enter Tryz.func151,Tryz.ntmps151;go_wp2;go_ret;exact⟨rfl,rfl⟩
theorem Iv (L:List Nd) (hL:L.length≤90000) (A:Option Addr) (c:Nat) (w:World) (hR:Rd w w.heap.size 4 (.slice A L.length c) L.length (gQ L)) :
    Calls Tryz.prog 151 #[.slice A L.length c] w fun e w'=>∃gf lb,e=.returned (.func (.func gf) #[] lb)∧sB gf lb (nB L L.length) w'∧Below w.heap.size w w':=by
  refine(KY _ _ _ w).mono ?_;rintro e w' ⟨rfl,hw⟩;have hs:w'.heap.size=w.heap.size+1:=by rw[hw];simp
  have k1:Bk w' w.heap.size 24 #[.slice A L.length c]:=by rw[hw];exact Bk.new w _ _
  have hbw:Below w.heap.size w w':=by rw[hw];exact(aC _ w).alloc (au _) _
  refine⟨_,_,rfl,⟨enters_of Tryz.func191 (by kernel_rfl) rfl,fun W0 hW0=>?_⟩,hbw⟩;intro n l' J Jx W hW hF _ hY hJ;have hb:=hW0.trans (hW.mono hW0.size);refine Iw n l' _ c w'.heap.size L A J Jx hF hY hL W (k1.below hb k1.lt) (by omega) ?_ hb.size hJ
  exact((hR.keep hbw (au _)).keep (hb.mono (by omega)) (au _)).mono (by omega)
theorem Ms (L:List Nd) (hL:L.length≤90000) (A:Option Addr) (c:Nat) (w:World) (hR:Rd w w.heap.size 4 (.slice A L.length c) L.length (gQ L)) :
    Calls Tryz.prog 123 #[.slice A L.length c] w fun e w'=>∃v,e=.returned v∧w'.ownsRow w.heap.size 3 1 v (nB L L.length).length (xD (nB L L.length))∧Below w.heap.size w w':=by
  have hn:=zv (lE L) L.length;have H:=aa (ac (Iv L hL A c w hR) (fun gf lb w2 hI=>uE gf lb (nB L L.length) w2 (by unfold nB;omega) hI));clear hR hn;go_enter Tryz.func123,Tryz.ntmps123
  go_wp2_with (first
    | (go_at_call 151;refine H.out.1.mono ?_;rintro e w2 ⟨gf,lb,rfl,h1,h2⟩;have H1:=aa (ac h1 h2);clear h1 h2)
    | (go_at_call 45;refine(H.out.2 _ _ _ H1.out.1).mono ?_;rintro e w3 ⟨v,rfl,h1,h2⟩;have H2:=aa (ac h1 h2);clear h1 h2))
  go_ret;exact⟨_,rfl,fK H2.out.1 H1.out.2.size,H1.out.2.trans (H2.out.2.mono H1.out.2.size)⟩
theorem Gd.node29 {N A k:Nat} {s:Ps} {f:Ps→Ps} (h:∀t:Ps,t.p=s.p→t.deep=s.deep→Gd N A t (f t)) (hk:1≤k∧k≤16:=by decide):Gd N (A+1) s (dO k f s):=Gd.node (h _ rfl rfl) ⟨hk.1,by omega,fun e=>by omega,fun e=>by omega⟩
theorem Bo (F:List Lf):Gd F.length 5 (iW 0) (eP F)∧(eP F).p=F.length:=by
  have h:=fun t (ht:t.p=(iW 0).p)=>mT (jp F (F.length+1)) _ (t,false) rfl (by rw[ht];exact bv _)
  exact⟨Gd.node29 (A:=4) fun t ht _=>(h t ht).1,(h {iW 0 with l:=(iW 0).l++[⟨1,(iW 0).p,0,(iW 0).up⟩],up:=((iW 0).l.length:Int)} rfl).2⟩
theorem yz (F:List Lf):(eP F).l.length≤16*F.length+5:=by
  obtain⟨h1,h2⟩:=Bo F;have h3:=h1.b;rw[h2] at h3;have e1:(iW 0).l.length=0:=rfl;have e2:(iW 0).p=0:=rfl;omega
def mz (F:List Lf) (L:List Nd) (i:Nat):Nat:=match L[i]? with|some x=>(match F[x.fr]? with|some y=>y.fr.toNat|none=>0)|none=>0
def uG (l:List UInt8):List Nat:=(nB (eP (f9 l)).l (eP (f9 l)).l.length).map (mz (f9 l) (eP (f9 l)).l)
def sC (l:List UInt8):Prop:=∀i∈nB (eP (f9 l)).l (eP (f9 l)).l.length,∃x y,(eP (f9 l)).l[i]? = some x∧(f9 l)[x.fr]? = some y
theorem map_take {α β:Type} (g:α→β) {F:List α} {k:Nat} {x:α} (h:F[k]? = some x):(F.take (k+1)).map g=(F.take k).map g++[g x]:=by
  rw[List.take_add_one,h,cw];rfl
theorem Jt {α β:Type} (g:α→β) (F:List α) (k:Nat):(F.take k).map g<+:F.map g:=by
  rw[List.map_take];exact List.take_prefix _ _
theorem LP {l:List Nat} {k x:Nat} (h:l[k]? = some x):(xD l)[k]? = some (.int .i64 (x:Int)):=by
  unfold xD;rw[bc,h];rfl
theorem I1 {w:World} {B sz n c:Nat} {A:Option Addr} {xs:List Value} (h:Rd w B sz (.slice A n c) n xs) (hn:0<n):∃g o,A=some ⟨g,o,none⟩∧g<B∧∀j u,xs[j]? = some u→w.cell? ⟨g,o+j,none⟩=some u:=by
  obtain⟨_,A',c',he,_,_,_,h2⟩:=h
  cases he;exact h2 hn
theorem zH (n l' Bn n₀:Nat) (Xc:Nat→Prop) (l:List UInt8) (hok:sC l) (J Jx:(Nat→Prop)→List Nat→World→Prop) (hF:kH J) (hY:YC l' (uG l) n₀ Xc J Jx) (hl:l.length≤900) (W:World) (hBn:Bk W Bn 9 #[.string ⟨l.toArray⟩]) (hB1:Bn<n₀∧¬Xc Bn) (wn:n₀≤W.heap.size) (h0:J (fun _=>False) [] W) :
    CallsIn Fence.wide n Tryz.prog 122 #[.func (.yield l') #[] #[],.pointer (some ⟨Bn,0,none⟩)] W fun e W'=>(∃v,e=.returned v)∧((∃xs X,xs=uG l∧J X xs W')∨(∃pre X,True∧Jx X pre W')):=by
  obtain⟨F,hFe⟩:∃F,F=f9 l:=⟨_,rfl⟩;have hpl:(eP (f9 l)).l.length≤90000:=by
    have h1:=yz (f9 l);have h2:=(qD l hl).n;omega
  have c1:=fun W=>Kw l W hl
  have hlv:uG l=(nB (eP (f9 l)).l (eP (f9 l)).l.length).map (mz (f9 l) (eP (f9 l)).l):=rfl;have hfr:=Ck l;unfold sC at hok;rw[←hFe] at c1 hfr hlv hok hpl;obtain⟨L,hLe⟩:∃L,L=(eP F).l:=⟨_,rfl⟩;rw[←hLe] at c1 hlv hok hpl;have c2:=fun (A:Option Addr) (c:Nat) W (hR:Rd W W.heap.size 4 (.slice A L.length c) L.length (gQ L))=>Ms L hpl A c W hR
  have htn:=zv (lE L) L.length;obtain⟨K,hKe⟩:∃K,K=nB L L.length:=⟨_,rfl⟩;rw[←hKe] at hlv hok c2;rw[show (List.range L.length).filter (lE L)=K from hKe.symm] at htn;have hll:=(qD l hl).n;rw[←hFe] at hll;rw[hlv] at hY;have y0:W.cell? ⟨Bn,0,none⟩=some (.string ⟨l.toArray⟩):=by rw[hBn.cell];rfl
  have hBlt:=hBn.lt;have HC:=aa (ac c1 c2);have HK:=aa (ac hY (ac h0 (ac hfr (ac hlv hok))));clear c1 c2 hFe hLe hKe hY hBn hB1 h0 hfr hlv hok;refine dk Tryz.func122 rfl trivial ?_ rfl;simp only[Tryz.ntmps122,bU,aP,bI,Nat.reduceAdd,Nat.reduceSub,bE,bF,bV,bJ,bT,bu]
  gi_wp2_with (first
    | (refine⟨trivial,fun h=>by simp[Fence.wide] at h,?_⟩;gi_at_call 11;refine(aU.2 (HC.out.1 _)).mono ?_;rintro e w1 ⟨v1,v2,rfl,ho1,ho2,hb⟩;obtain⟨A1,n1,c1,rfl⟩:=dR ho1;obtain rfl:=ei ho1;obtain⟨A2,n2,c2,rfl⟩:=dR ho2;obtain rfl:=ei ho2;have H1:=aa (ac ho1 (ac ho2 hb));clear ho1 ho2 hb)
    | (refine⟨trivial,fun h=>by simp[Fence.wide] at h,?_⟩;gi_at_call 123;refine(aU.2 (HC.out.2 _ _ _ (Rd.of_own H1.out.2.1))).mono ?_;rintro e w2 ⟨v2,rfl,ho,hb⟩;obtain⟨A4,n4,c4,rfl⟩:=dR ho;obtain rfl:=ei ho;have H2:=aa (ac (dS H1.out.1 hb) (ac (dS H1.out.2.1 hb) (ac (fK ho H1.out.2.2.size) (H1.out.2.2.trans (hb.mono H1.out.2.2.size)))));clear ho hb))
  have hd0:=(pN.start (Xc:=Xc) HK.out.2.1 (fun k hk=>hk.elim) wn).below hF H2.out.2.2.2;have hx1:∀k,(Value.slice A1 F.length c1).ownBlock=some k→iV (fun _=>False) W w2 k:=fun k hk=>.inr (H2.out.1.lt k hk)
  have hx2:∀k,(Value.slice A2 L.length c2).ownBlock=some k→iV (fun _=>False) W w2 k:=fun k hk=>.inr (H2.out.2.1.lt k hk)
  have hx3:∀k,(Value.slice A4 K.length c4).ownBlock=some k→iV (fun _=>False) W w2 k:=fun k hk=>.inr (H2.out.2.2.1.lt k hk)
  have HS:=aa (ac hd0 (ac hx1 (ac hx2 hx3)));clear hd0 hx1 hx2 hx3 y0;gi_loopw [15] (fun i wr=>∃(f:Nat) (X:Nat→Prop),f≤K.length∧i=.int .i64 f∧pN J W wr n₀ Xc (fun _=>False) X ((K.take f).map (mz F L))∧(wr.ownsRow W.heap.size 29 4 (.slice A1 F.length c1) F.length (iF F)∧wr.ownsRow W.heap.size 56 4 (.slice A2 L.length c2) L.length (gQ L)∧wr.ownsRow W.heap.size 3 1 (.slice A4 K.length c4) K.length (xD K))∧(∀k,(Value.slice A1 F.length c1).ownBlock=some k→X k)∧(∀k,(Value.slice A2 L.length c2).ownBlock=some k→X k)∧∀k,(Value.slice A4 K.length c4).ownBlock=some k→X k) (fun i _=>K.length-(intOf i).toNat)
  case atStart=>exact⟨0,_,bv _,rfl,HS.out.1,⟨H2.out.1,H2.out.2.1,H2.out.2.2.1⟩,HS.out.2⟩
  case round=>
    obtain⟨f,X,hf,rfl,hd,ho,hxo⟩:=hrel;by_cases hfl:f<K.length
    ·have v0:(f:Int)<(K.length:Int):=by omega
     have v00:(0:Int)≤(f:Int):=by omega
     obtain⟨i,hi⟩:∃i,K[f]? = some i:=⟨_,ax hfl⟩;obtain⟨x,y,hx,hy⟩:=HK.out.2.2.2.2 i (aO hi);obtain⟨g4,o4,rfl,_,q4⟩:=I1 (Rd.of_own ho.2.2) (by omega);have q4:wr.cell? ⟨g4,o4+f,none⟩=some (.int .i64 (i:Int)):=q4 f _ (LP hi);obtain⟨g2,o2,rfl,_,hc2⟩:=iK (lay:=LB) jk (Rd.of_own ho.2.1) hx rfl;obtain⟨g1,o1,rfl,_,hc1⟩:=iK (lay:=LJ) (fun _=>rfl) (Rd.of_own ho.1) hy rfl;have q2:wr.cell? ⟨g2,o2+i*4+1,none⟩=some (.int .i64 (x.fr:Int)):=hc2 1 _ rfl;have q1:wr.cell? ⟨g1,o1+x.fr*4+2,none⟩=some (.int .i64 y.fr):=hc1 2 _ rfl;have u1:(i:Int)<(L.length:Int):=by have:=(ay.1 hx).1;omega
     have u2:(0:Int)≤(i:Int):=by omega
     have u3:(x.fr:Int)<(F.length:Int):=by have:=(ay.1 hy).1;omega
     have u4:(0:Int)≤(x.fr:Int):=by omega
     have hfr:=HK.out.2.2.1 y (aO hy);have hsuc:=map_take (mz F L) hi;have e1:mz F L i=y.fr.toNat:=by unfold mz;rw[hx];simp only;rw[hy]
     rw[e1] at hsuc;have hpre:=Jt (mz F L) K (f+1);rw[hsuc] at hpre;obtain⟨fn,tmps,assign,body,hy',hR⟩:=HK.out.1 _ _ y.fr.toNat wr hd.j hpre (n-1);have hR2:=aa hR;simp only[Bt] at hy';rw[Int.toNat_of_nonneg hfr] at hy';have hy2:=aa hy';have HR:=aa (ac hd (ac ho (ac hxo hsuc)));clear hc1 hc2 hi hx hy hd ho hxo hR hy' hpre hsuc e1;gi_wp2_with fail;rw[hy2.out];gi_wp2_with fail;refine⟨fun h=>by simp[Fence.wide] at h,?_⟩;refine hR2.out.mono ?_;rintro e W3 (⟨rfl,hJ3,hk3,hx3⟩|⟨rfl,hJx3,hk3,hx3⟩)
     ·have H3:=aa (ac (HR.out.1.next hJ3 hk3 hx3) (ac (lp HR.out.2.1.1 fun k hk=>hx3 k (HR.out.2.2.1.1 k hk)) (ac (lp HR.out.2.1.2.1 fun k hk=>hx3 k (HR.out.2.2.1.2.1 k hk)) (lp HR.out.2.1.2.2 fun k hk=>hx3 k (HR.out.2.2.1.2.2 k hk)))));clear hJ3 hk3 hx3;gi_wp2_with fail;exact⟨⟨f+1,_,by omega,by go_num,by rw[HR.out.2.2.2];exact H3.out.1,H3.out.2,HR.out.2.2.1⟩,by simp[intOf];omega⟩
     ·have H3:=aa hJx3;clear hJx3 hk3 hx3;gi_wp2_with fail;refine bn ?_;exact⟨⟨_,rfl⟩,.inr ⟨_,_,trivial,H3.out⟩⟩
    ·obtain rfl:f=K.length:=by omega
     have HE:=aa hd;clear hd ho hxo;gi_wp2_with fail;go_end0;refine⟨⟨_,rfl⟩,.inl ⟨X,?_⟩⟩;rw[HK.out.2.2.2.1]
     have:=HE.out.j
     rwa [dy] at this
theorem By (l:List UInt8) (w:World) :
    Calls Tryz.prog 83 #[.string ⟨l.toArray⟩] w fun e w'=>e=.returned (.func (.func 122) #[] #[.pointer (some ⟨w.heap.size,0,none⟩)])∧w'=w.alloc (.cells #[.string ⟨l.toArray⟩] 9):=by
  go_enter Tryz.func83,Tryz.ntmps83;go_wp2;go_ret;exact⟨rfl,rfl⟩
theorem zG (l:List UInt8) (hok:sC l) (hl:l.length≤900) (w:World) :
    Calls Tryz.prog 83 #[.string ⟨l.toArray⟩] w fun e w'=>∃gf lb,e=.returned (.func (.func gf) #[] lb)∧sB gf lb (uG l) w'∧Below w.heap.size w w':=by
  refine(By l w).mono ?_;rintro e w' ⟨rfl,hw⟩;have hs:w'.heap.size=w.heap.size+1:=by rw[hw];simp
  have k1:Bk w' w.heap.size 9 #[.string ⟨l.toArray⟩]:=by rw[hw];exact Bk.new w _ _
  refine⟨_,_,rfl,⟨enters_of Tryz.func122 (by kernel_rfl) rfl,fun W0 hW0=>?_⟩,by rw[hw];exact(aC _ w).alloc (au _) _⟩;intro n l' J Jx W hW hF _ hY hJ;have hb:=hW0.trans (hW.mono hW0.size);exact zH n l' _ w'.heap.size _ l hok J Jx hF hY hl W (k1.below hb k1.lt) ⟨by omega,fun h=>h⟩ hb.size hJ
def mD (l:List UInt8) (k:Int):List Nat:=
  if k=1 then mF (fun _ _=>true) l l.length else if k=2 then mF (fun a b => !jf a&&jf b) l l.length
  else if k=3 then mF (fun a b=>jt a && !jt b) l l.length else if k=6 then mF (fun a _=>a==10) l l.length
  else if k=4 then Ik l else if k=5 then uG l else []
theorem LA (w:World):sB 84 #[] [] w:=by
  refine⟨enters_of Tryz.func84 (by kernel_rfl) rfl,fun W0 hW0=>?_⟩;intro n l' J Jx W hW hF _ hY hJ;have H:=aa hJ;clear hJ hY hF;refine dk Tryz.func84 rfl trivial ?_ rfl;simp only[Tryz.ntmps84,bU,aP,bI,Nat.reduceAdd,Nat.reduceSub,bE,bF,bV,bJ,bT,bu];gi_wp2_with fail;go_end0;exact⟨⟨_,rfl⟩,.inl ⟨_,_,rfl,H.out⟩⟩
theorem DU (l:List UInt8) (hok:sC l) (hl:l.length≤900) (k:Int) (w:World) :
    Calls Tryz.prog 46 #[.string ⟨l.toArray⟩,.int .i64 k] w fun e w'=>∃gf lb,e=.returned (.func (.func gf) #[] lb)∧sB gf lb (mD l k) w'∧Below w.heap.size w w':=by
  have HO:=aa hok;clear hok;have key:k=1∨k=2∨k=3∨k=6∨k=4∨k=5∨((k==1)=false∧(k==2)=false∧(k==3)=false∧(k==6)=false∧(k==4)=false∧(k==5)=false∧mD l k=[]):=by
    by_cases h1:k=1
    ·exact .inl h1
    by_cases h2:k=2
    ·exact .inr (.inl h2)
    by_cases h3:k=3
    ·exact .inr (.inr (.inl h3))
    by_cases h6:k=6
    ·exact .inr (.inr (.inr (.inl h6)))
    by_cases h4:k=4
    ·exact .inr (.inr (.inr (.inr (.inl h4))))
    by_cases h5:k=5
    ·exact .inr (.inr (.inr (.inr (.inr (.inl h5)))))
    ·exact .inr (.inr (.inr (.inr (.inr (.inr ⟨aJ h1,aJ h2,aJ h3,aJ h6,aJ h4,aJ h5,by unfold mD;rw[aB h1,aB h2,aB h3,aB h6,aB h4,aB h5]⟩)))))
  rcases key with rfl|rfl|rfl|rfl|rfl|rfl|⟨t1,t2,t3,t6,t4,t5,hE⟩
  all_goals (
    go_enter Tryz.func46,Tryz.ntmps46;go_wp2_with (
      (first
        | (go_at_call 82;with_reducible refine(Dr l hl _).mono ?_)
        | (go_at_call 83;with_reducible refine(zG l HO.out hl _).mono ?_)
        | (go_at_call 75;with_reducible (first
            | refine(oR l hl _ _ NM _).mono ?_
            | refine(oR l hl _ _ NL _).mono ?_
            | refine(oR l hl _ _ NK _).mono ?_
            | refine(oR l hl _ _ NJ _).mono ?_)))
      rintro e w2 ⟨gf,lb,rfl,h1,h2⟩;have H1:=aa (ac h1 h2);clear h1 h2))
  all_goals go_ret
  all_goals first
    | exact⟨_,_,rfl,H1.out⟩
    | exact⟨_,_,rfl,by rw[hE];exact LA _,aC _ _⟩
def pM (l:List Int):List Value:=l.map fun i=>Value.int .i64 i
theorem JB (l:List Int):(pM l).length=l.length:=by simp[pM]
theorem l6 {l:List Int} {k:Nat} {x:Int} (h:l[k]? = some x):(pM l)[k]? = some (.int .i64 x):=by
  unfold pM;rw[bc,h];rfl
theorem xh (R:List Int) (B g cap n:Nat) (w:World) (hn:n=R.length) (h2:2≤n) (hr:R.Pairwise (· < ·)) (ho:w.ownsRow B 3 1 (.slice (some ⟨g,0,none⟩) n cap) n (pM R)) :
    Calls Tryz.prog 47 #[.slice (some ⟨g,0,none⟩) n cap] w fun e w'=>e=.returned (.slice (some ⟨g,0,none⟩) n cap)∧∃m,w'=w.drewN m:=by
  have hcap:=gM ho;unfold maxLen at hcap;have H:=aa (ac hr ho);have HN:=aa hn;have t0:decide ((n:Int)<2)=false:=by simp;omega
  clear hr ho hn;go_enter Tryz.func47,Tryz.ntmps47;go_wp2;go_loopw [3] (fun i wr=>∃k m:Nat,1≤k∧k≤n∧i=.int .i64 k∧wr=w.drewN m) (fun i _=>n-(intOf i).toNat)
  case atStart=>exact⟨1,0,au _,by omega,rfl,rfl⟩
  case round=>
    obtain⟨k,m,hk1,hk2,rfl,rfl⟩:=hrel;by_cases hlt:k<n
    ·obtain⟨j,rfl⟩:∃j,k=j+1:=⟨k-1,by omega⟩;obtain⟨x,hx⟩:∃x,R[j]? = some x:=⟨_,ax (by have:=HN.out;omega)⟩;obtain⟨y,hy⟩:∃y,R[j+1]? = some y:=⟨_,ax (by have:=HN.out;omega)⟩;have c1:w.cell? ⟨g,j,none⟩=some (.int .i64 x):=dW H.out.2 _ _ (l6 hx);have c2:w.cell? ⟨g,j+1,none⟩=some (.int .i64 y):=dW H.out.2 _ _ (l6 hy);have hlt2:x<y:=by
       obtain⟨p1,p2⟩:=ay.1 hx;obtain⟨p3,p4⟩:=ay.1 hy;rw[←p2,←p4];exact bN.1 H.out.1 j (j+1) p1 p3 (by omega)
     have t1:(y==x)=false:=aJ (by omega);have u1:(j:Int)+1<(n:Int):=by omega
     have u2:(0:Int)≤(j:Int):=by omega
     have u3:(j:Int)<(n:Int):=by omega
     have u4:(0:Int)≤(j:Int)+1:=by omega
     have v2:IntKind.i64.wrap (j:Int)=(j:Int):=aS _ (by omega);have v1:IntKind.i64.wrap ((j:Int)+1-1)=(j:Int):=by rw[Int.add_sub_cancel];exact aS _ (by omega)
     clear hx hy hlt2;go_wp2_with fail;go_quiet (fail);go_wp2_with fail;exact⟨⟨j+1+1,_,by omega,by omega,by go_num,rfl⟩,by simp[intOf];omega⟩
    ·obtain rfl:k=n:=by omega
     go_wp2;go_ret;exact⟨rfl,_,rfl⟩
theorem zD (a:Int) (r:List Int) (B g cap t:Nat) (w:World) (hn:t=r.length) (hr:(a::r).Pairwise (· < ·)) (ho:w.ownsRow B 3 1 (.slice (some ⟨g,0,none⟩) (t+2) cap) (t+2) (pM (a::a::r))) :
    Calls Tryz.prog 47 #[.slice (some ⟨g,0,none⟩) ((t+2:Nat)) cap] w fun e w'=>e=.returned (.slice (some ⟨g,0,none⟩) ((t+1:Nat)) cap)∧w'.ownsRow B 3 1 (.slice (some ⟨g,0,none⟩) (t+1) cap) (t+1) (pM (a::r))∧Below B w w':=by
  have hcap:=gM ho;unfold maxLen at hcap;have H:=aa (ac hr (ac ho hn));have t0:decide (((t+2:Nat):Int)<2)=false:=by simp;omega
  have c0:w.cell? ⟨g,0,none⟩=some (.int .i64 a):=dW ho _ _ rfl;have c1:w.cell? ⟨g,1,none⟩=some (.int .i64 a):=dW ho _ _ rfl;have u0:((1:Int))<((t+2:Nat):Int):=by omega
  have u00:((0:Int))<((t+2:Nat):Int):=by omega
  clear hr ho hn;go_enter Tryz.func47,Tryz.ntmps47;go_wp2;go_loopw [3] (fun i wr=>i=.int .i64 1∧wr=w) (fun _ _=>0)
  case atStart=>exact⟨rfl,rfl⟩
  case round=>
    obtain⟨rfl,hw⟩:=hrel;obtain rfl:=hw.symm;go_wp2_with fail;go_quiet (fail);go_wp2_with fail;go_loopw [3,5] (fun s3 s5 wr=>∃(q:Nat) (Z:List Int),1≤q∧q≤t+1∧s3=.int .i64 q∧s5=.int .i64 q∧wr.ownsRow B 3 1 (.slice (some ⟨g,0,none⟩) (t+2) cap) (t+2) (pM Z)∧Z.length=t+2∧(∀p,Z[p]? = if p<q then (a::r)[p]? else (a::a::r)[p]?)∧Below B w wr) (fun s3 s5 _=>t+1-(intOf s5).toNat)
    case atStart=>
      refine⟨1,a::a::r,au _,by omega,rfl,rfl,H.out.2.1,by have:=H.out.2.2;simp;omega,fun p=>?_,dN (aC _ _) _⟩;by_cases hp:p<1
      ·obtain rfl:p=0:=by omega
       rfl
      ·rw[aB hp]
    case round=>
      obtain⟨q,Z,hq1,hq2,rfl,rfl,ho,hZ,hp,hb⟩:=hrel;by_cases hlt:q<t+1
      ·obtain⟨j,rfl⟩:∃j,q=j+1:=⟨q-1,by omega⟩;have hn:=H.out.2.2;obtain⟨x,hx⟩:∃x,r[j]? = some x:=⟨_,ax (by omega)⟩;obtain⟨y,hy⟩:∃y,(a::r)[j]? = some y:=⟨_,ax (by simp;omega)⟩;have hlt2:y<x:=by
         obtain⟨p1,p2⟩:=ay.1 hy;obtain⟨p3,p4⟩:=ay.1 hx;rw[←p2,←p4];exact bN.1 H.out.1 j (j+1) p1 (by simp;omega) (by omega)
       have t1:(x != y)=true:=by simp;omega
       have z1:Z[j+1]? = some y:=by rw[hp,aB (by omega)];exact hy
       have z2:Z[j+2]? = some x:=by rw[hp,aB (by omega)];exact hx
       have c1:wr.cell? ⟨g,1+j,none⟩=some (.int .i64 y):=by rw[Nat.add_comm];exact dW ho _ _ (l6 z1)
       have c2:wr.cell? ⟨g,1+(j+1),none⟩=some (.int .i64 x):=by rw[Nat.add_comm];exact dW ho _ _ (l6 z2)
       have c3:wr.cell? ⟨g,j+1,none⟩=some (.int .i64 y):=dW ho _ _ (l6 z1);have f1:=gC ho (j+1);have u1:(j:Int)+1<((t+1:Nat):Int):=by omega
       have u2:(0:Int)≤(j:Int):=by omega
       have u3:(j:Int)<((t+1:Nat):Int):=by omega
       have u4:(0:Int)≤(j:Int)+1:=by omega
       have u5:(j:Int)+1<((t+2:Nat):Int):=by omega
       have v1:IntKind.i64.wrap ((j:Int)+1-1)=(j:Int):=by rw[Int.add_sub_cancel];exact aS _ (by omega)
       have v2:IntKind.i64.wrap (j:Int)=(j:Int):=aS _ (by omega);have hown:∀m,((wr.drewN m).setCell ⟨g,j+1,none⟩ (.int .i64 x)).ownsRow B 3 1 (.slice (some ⟨g,0,none⟩) (t+2) cap) (t+2) (pM (Z.set (j+1) x)):=fun m=>by
         have h:=mP (w:=wr.drewN m) ho (j+1) (.int .i64 x);unfold pM at h ⊢
         rwa [List.map_set]
       have hbb:∀m,Below B w ((wr.drewN m).setCell ⟨g,j+1,none⟩ (.int .i64 x)):=fun m=>(dN hb m).setCell hcap.2.2.2.1 _
       have hp2:∀p,(Z.set (j+1) x)[p]? = if p<j+1+1 then (a::r)[p]? else (a::a::r)[p]? := fun p=>by
         rw[List.getElem?_set,hp];by_cases e:j+1=p
         ·subst e;rw[aD rfl,aD (by omega),aD (by omega)];exact hx.symm
         ·rw[aB e];by_cases h:p<j+1
          ·rw[aD h,aD (by omega)]
          ·rw[aB h,aB (by omega)]
       have HZ:=aa (ac hown (ac hbb hp2));clear ho hb hp hx hy hlt2 z1 z2 hown hbb hp2 hn;go_wp2_with fail;go_quiet (fail);go_wp2_with fail;exact⟨⟨j+1+1,_,by omega,by omega,by go_num,by go_num,HZ.out.1 _,by simp[hZ],HZ.out.2.2,HZ.out.2.1 _⟩,by simp[intOf];omega⟩
      ·obtain rfl:q=t+1:=by omega
       have hcl:∀ty c',(Builtin.clear_ #[35] ty #[.slice (some ⟨g,t+1,none⟩) 1 c']).run Tryz.prog wr=.ok (.tuple #[]) (wr.setCells g (t+1) (List.replicate 1 (.int .i64 0))):=
         fun ty c'=>Lib.run_clear_slice wr _ 3 ty (.int .i64 0) rfl (fun w=>rfl) rfl rfl g (t+1) 1 c' (by omega) (fun j hj=>by rw[show t+1+j=t+1 by omega,dW ho (t+1) _ (l6 (ax (by omega)))];rfl) (fun j hj=>gC ho _)
       have HZ:=aa (ac ho (ac hb hp));clear ho hb hp;go_wp2;go_ret;refine⟨rfl,?_,HZ.out.2.1.setCell hcap.2.2.2.1 _⟩;have h:=mP HZ.out.1 (t+1) (.int .i64 0);have hn:=H.out.2.2;have e:Z.set (t+1) 0=(a::r)++[0]:=by
         refine List.ext_getElem? fun p=>?_
         rw[List.getElem?_set,HZ.out.2.2];by_cases h1:t+1=p
         ·subst h1;rw[aD rfl,aD (by omega),hn,aX (by simp)];simp
         ·rw[aB h1];by_cases h2:p<t+1
          ·rw[aD h2,aW (by simp;omega)]
          ·rw[aB h2,bY (by simp;omega),bY (by simp;omega)]
       have e2:(pM Z).set (t+1) (.int .i64 0)=pM (a::r)++[.int .i64 0]:=by
         have:=congrArg pM e
         unfold pM at this ⊢;rw[List.map_set,cw] at this;exact this
       rw[e2] at h;exact Go.ownsRow_pop (by rw[JB];simp;omega) h
end
def kC:List Int→List Int
  | []=>[]
  | a::r=>match kC r with
    | []=>[a]
    | b::s=>if a=b then b::s else a::b::s
def gU (B:List Int) (n:Int):List Int:=kC (0::B++[n])
theorem vU:∀(l:List Int) (a:Int),∃s,kC (a::l)=a::s
  | [],a=>⟨[],rfl⟩
  | b::l,a=>by
    obtain⟨s,h⟩:=vU l b;show ∃s',(match kC (b::l) with|[]=>[a]|c::s=>if a=c then c::s else a::c::s)=a::s';rw[h];simp only;by_cases e:a=b
    ·rw[aD e,e];exact⟨s,rfl⟩
    ·rw[aB e];exact⟨b::s,rfl⟩
theorem uF:∀(l:List Int) (x:Int),x∈kC l→x∈l
  | [],x,h=>h
  | a::l,x,h=>by
    have ih:=uF l x;unfold kC at h
    cases hc:kC l with
    | nil=>rw[hc] at h;simp at h;simp[h]
    | cons b s=>
      rw[hc] at h ih;simp only at h;by_cases e:a=b
      ·rw[aD e] at h;exact bG _ (ih h)
      ·rw[aB e] at h;rcases br.1 h with h|h
       ·simp[h]
       ·exact bG _ (ih h)
theorem vS:∀(l:List Int),l.Pairwise (· ≤ ·)→(kC l).Pairwise (· < ·)
  | [],_=>.nil
  | a::l,h=>by
    rw[cP] at h;have ih:=vS l h.2;unfold kC
    cases hc:kC l with
    | nil=>simp
    | cons b s=>
      rw[hc] at ih;simp only;by_cases e:a=b
      ·rw[aD e];exact ih
      ·rw[aB e,cP];refine⟨fun x hx=>?_,ih⟩;have hb:=h.1 b (uF l b (by rw[hc];simp));rcases br.1 hx with rfl|hx
       ·omega
       ·have:=(cP.1 ih).1 x hx;omega
theorem vT:∀(l:List Int) (z:Int),(kC (l++[z])).getLast? = some z
  | [],z=>rfl
  | a::l,z=>by
    have ih:=vT l z;show (match kC (l++[z]) with|[]=>[a]|b::s=>if a=b then b::s else a::b::s).getLast? = some z
    cases hc:kC (l++[z]) with
    | nil=>rw[hc] at ih;simp at ih
    | cons b s=>
      rw[hc] at ih;simp only;by_cases e:a=b
      ·rw[aD e];exact ih
      ·rw[aB e,List.getLast?_cons_cons];exact ih
structure KS (B:List Int) (n:Int):Prop where
  rise:B.Pairwise (· < ·)
  rng:∀x∈B,0≤x∧x<n
theorem Em {B:List Int} {n:Int} (h:KS B n) (hn:0≤n):(gU B n).Pairwise (· < ·)∧(∃s,gU B n=0::s)∧(gU B n).getLast? = some n:=by
  refine⟨vS _ ?_,vU _ 0,vT (0::B) n⟩;rw[bu,cP];refine⟨fun x hx=>?_,?_⟩
  ·rcases aZ.1 hx with h1|h1
   ·exact(h.rng x h1).1
   ·rw[cE.1 h1];exact hn
  ·rw[dx];refine⟨h.rise.imp fun h=>Int.le_of_lt h,by simp,fun x hx y hy=>?_⟩;rw[cE.1 hy];exact Int.le_of_lt (h.rng x hx).2
def sj (n at_:Int):Int:=min (max at_ 0) n
def pE (S:List Int) (n a:Int):Int:=match S.find? (fun x=>decide (a<x)) with|some x=>x|none=>n
def sJ (S:List Int) (a:Int):Int:=match (S.takeWhile fun x=>decide (x<a)).getLast? with|some x=>x|none=>0
section
open Go.RowKit
attribute [local go_sem] Oper.semAt_some
def jy (l:List UInt8) (k:Int):List Int:=(mD l k).map fun (n:Nat)=>(n:Int)
theorem JF (l:List Nat):xD l=pM (l.map fun (n:Nat)=>(n:Int)):=by simp[xD,pM]
theorem FV (l:List Int):∀u∈pM l,u.oneCell'=true:=by
  intro u hu;obtain⟨x,_,rfl⟩:=bX.1 hu;rfl
theorem rN:∀{l:List Int},l.Pairwise (· < ·)→kC l=l
  | [],_=>rfl
  | a::l,h=>by
    rw[cP] at h;unfold kC;rw[rN h.2]
    cases l with
    | nil=>rfl
    | cons b s=>
      have:=h.1 b (by simp)
      simp only;rw[aB (by omega)]
def If (R:List Int):Prop:=(R.Pairwise (· < ·)∧2≤R.length)∨∃a r,R=a::a::r∧(a::r).Pairwise (· < ·)
theorem EN {B:List Int} {n:Int} (h:KS B n):(B++[n]).Pairwise (· < ·):=by
  rw[dx];refine⟨h.rise,by simp,fun x hx y hy=>?_⟩;rw[cE.1 hy]
  exact(h.rng x hx).2
theorem Ac {B:List Int} {n:Int} (h:KS B n) (hn:0≤n):If (0::B++[n]):=by
  have h1:=EN h;have h2:∀x∈B++[n],0≤x:=fun x hx=>by
    rcases aZ.1 hx with h3|h3
    ·exact(h.rng x h3).1
    ·rw[cE.1 h3];exact hn
  rw[bu]
  cases e:B++[n] with
  | nil=>simp at e
  | cons y s=>
    rw[e] at h1 h2;by_cases h0:y=0
    ·subst h0;exact .inr ⟨0,s,rfl,h1⟩
    ·refine .inl ⟨?_,by simp⟩;rw[cP];refine⟨fun x hx=>?_,h1⟩
     have:=h2 y (by simp)
     rcases br.1 hx with rfl|hx
     ·omega
     ·have:=(cP.1 h1).1 x hx;omega
theorem DJ (R:List Int) (hR:If R) (B:Nat) (v:Value) (w:World) (hB:B≤w.heap.size) (ho:w.ownsRow B 3 1 v R.length (pM R)) :
    Calls Tryz.prog 47 #[v] w fun e w'=>∃v',e=.returned v'∧w'.ownsRow B 3 1 v' (kC R).length (pM (kC R))∧Below B w w':=by
  obtain⟨A,n,c,rfl⟩:=dR ho;obtain rfl:=ei ho;rcases hR with ⟨h1,h2⟩|⟨a,r,rfl,h1⟩
  ·obtain⟨g,rfl⟩:=jb ho (by omega);rw[rN h1];refine(xh R B g c R.length w rfl h2 h1 ho).mono ?_;rintro e w' ⟨rfl,m,rfl⟩;exact⟨_,rfl,ho,dN (aC _ _) _⟩
  ·obtain⟨g,rfl⟩:=jb ho (by simp);have e:kC (a::a::r)=a::r:=by
     unfold kC;rw[rN h1];simp
   rw[e];refine(zD a r B g c r.length w rfl h1 ho).mono ?_;rintro e w' ⟨rfl,h2,h3⟩;exact⟨_,rfl,h2,h3⟩
theorem tp (l:List UInt8) (k:Int) (hok:sC l) (hB:KS (jy l k) (l.length:Int)) (hn:(mD l k).length≤50000) (hl:l.length≤900) (w:World) :
    Calls Tryz.prog 19 #[.string ⟨l.toArray⟩,.int .i64 k] w fun e w'=>∃v,e=.returned v∧w'.ownsRow w.heap.size 3 1 v (gU (jy l k) (l.length:Int)).length (pM (gU (jy l k) (l.length:Int)))∧Below w.heap.size w w':=by
  obtain⟨i0,hi,hz0,hz1,hz2⟩:=cD Tryz.infoInt29;have c1:=fun W=>DU l hok hl k W
  have c2:=fun gf lb W2 hI=>uE gf lb (mD l k) W2 (by omega) hI
  have c3:=fun (v:Value) W hB' ho=>DJ _ (Ac hB (by omega)) w.heap.size v W hB' ho
  have e1:(jy l k).length=(mD l k).length:=by unfold jy;simp
  unfold gU;rw[JF] at c2;rw[show (mD l k).map (fun (n:Nat)=>(n:Int))=jy l k from rfl] at c2;rw[←e1] at c2 hn;obtain⟨I,hI⟩:∃I,I=jy l k:=⟨_,rfl⟩;rw[←hI] at c2 c3 hn;rw[←hI];have e2:(0::I++[(l.length:Int)]).length=1+I.length+1:=by simp;omega
  have e3:pM (0::I++[(l.length:Int)])=([.int .i64 0]++pM I)++pM [(l.length:Int)]:=by simp[pM]
  rw[e2,e3] at c3;have H:=aa (ac c1 (ac c2 c3));clear c1 c2 c3 hI hB hok e1 e2 e3;go_enter Tryz.func19,Tryz.ntmps19;have hb0:Below w.heap.size w (w.alloc (.cells #[.int .i64 0] 3)):=(aC _ w).alloc (au _) _;have ho0:(w.alloc (.cells #[.int .i64 0] 3)).ownsRow w.heap.size 3 1 (.slice (some ⟨w.heap.size,0,none⟩) 1 1) 1 [.int .i64 0]:=World.ownsRow_lit w #[.int .i64 0] 1 (au _) (by unfold maxLen;omega) rfl;have HW:=aa (ac hb0 ho0);clear hb0 ho0
  go_wp2_with (first
    | (go_at_call 46;refine(H.out.1 _).mono ?_;rintro e w2 ⟨gf,lb,rfl,h1,h2⟩;have H1:=aa (ac h1 h2);clear h1 h2)
    | (go_at_call 45;refine(H.out.2.1 _ _ _ H1.out.1).mono ?_;rintro e w3 ⟨v3,rfl,h1,h2⟩;obtain⟨A3,n3,c3,rfl⟩:=dR h1;obtain rfl:=ei h1;have hsz:=H1.out.2.size;have hb3:=H1.out.2.trans (h2.mono hsz);have hr3:=Rd.of_own h1;have ho3:=dS HW.out.2 hb3;have hsz3:w.heap.size+1≤w3.heap.size:=by have:=hb3.size;rw[aV] at this;exact this
       have H3:=aa (ac ho3 (ac hr3 (HW.out.1.trans (hb3.mono (by rw[aV];omega)))));clear h1 h2 hb3 hr3 ho3)
    | (at_builtin
       refine eD rfl (.tmp 6) (.tmp 10) 35 rfl w.heap.size 3 i0 _ 1 8 Tryz.underlying35 hi hz0 hz1 hz2 rfl (by decide) (.slice (some ⟨w.heap.size,0,none⟩) 1 1) 1 [.int .i64 0] rfl H3.out.1 (.slice A3 I.length c3) I.length w3.heap.size (pM I) rfl H3.out.2.1 (FV I) (by unfold maxLen;omega) (by omega) (by omega) ?_;intro v4 w4 hown4 hg4 hv4;obtain⟨A4,n4,c4,rfl⟩:=dR hown4;obtain rfl:=ei hown4;have hb4:Below w.heap.size w w4:=H3.out.2.2.grown hg4 (by omega) (by intro k hk;simp[Value.ownBlock] at hk;omega);have hsz4:=hb4.size;have H4:=aa (ac hown4 hb4);clear hown4 hg4 hv4 hb4)
    | (at_builtin
       refine eD rfl (.tmp 12) (.tmp 15) 35 rfl w.heap.size 3 i0 _ 1 8 Tryz.underlying35 hi hz0 hz1 hz2 rfl (by decide) (.slice A4 (1+I.length) c4) (1+I.length) ([.int .i64 0]++pM I) rfl (H4.out.1.alloc _) (.slice (some ⟨w4.heap.size,0,none⟩) 1 1) 1 (w4.heap.size+1) (pM [(l.length:Int)]) rfl (fQ w4 (pM [(l.length:Int)]) 3 1 1 rfl (by omega)) (FV _) (by unfold maxLen;omega) (by omega) (by rw[aV];omega) ?_;intro v5 w5 hown5 hg5 hv5;have hb5:Below w.heap.size w w5:=(H4.out.2.alloc hsz4 _).grown hg5 (by rw[aV];omega) (fun j hj=>(H4.out.1.lt j hj).1);have hsz5:=hb5.size;have H5:=aa (ac hown5 hb5);clear hown5 hg5 hv5 hb5)
    | (go_at_call 47;refine(H.out.2.2 _ _ hsz5 H5.out.1).mono ?_;rintro e w6 ⟨v6,rfl,h1,h2⟩;have H6:=aa (ac h1 h2);clear h1 h2))
  go_ret;exact⟨_,rfl,H6.out.1,H5.out.2.trans H6.out.2⟩
theorem tq (l:List UInt8) (a:Int) (w:World) :
    vZ 53 #[.string ⟨l.toArray⟩,.int .i64 a] w (.int .i64 (sj (l.length:Int) a)):=by
  unfold sj;by_cases h1:a<0
  ·have e1:max a 0=0:=by omega
   have e2:min (0:Int) (l.length:Int)=0:=by omega
   rw[e1,e2];by_cases h2:(l.length:Int)<0
   ·omega
   ·by_cases h3:(0:Int)<(l.length:Int);all_goals (
      go_enter Tryz.func53,Tryz.ntmps53;go_wp2;go_ret;refine⟨?_,rfl⟩;try simp only[Ending.returned.injEq,Value.int.injEq,true_and]
      try omega
      try rfl)
  ·have e1:max a 0=a:=by omega
   rw[e1];by_cases h2:a<(l.length:Int)
   ·have e2:min a (l.length:Int)=a:=by omega
    rw[e2];by_cases h3:(0:Int)<a;all_goals (
      go_enter Tryz.func53,Tryz.ntmps53;go_wp2;go_ret;refine⟨?_,rfl⟩;try simp only[Ending.returned.injEq,Value.int.injEq,true_and]
      try omega
      try rfl)
   ·have e2:min a (l.length:Int)=(l.length:Int):=by omega
    rw[e2];by_cases h3:(0:Int)<a;all_goals (
      go_enter Tryz.func53,Tryz.ntmps53;go_wp2;go_ret;refine⟨?_,rfl⟩;try simp only[Ending.returned.injEq,Value.int.injEq,true_and]
      try omega
      try rfl)
theorem Dx (x:Int) (r:List Int) (n a:Int):pE (x::r) n a=if a<x then x else pE r n a:=by
  unfold pE;rw[List.find?_cons];by_cases h:a<x
  ·rw[aD h,aG h]
  ·rw[aB h,aL h]
def Kg (f:Int) (S:List Int) (a:Int):Int:=match (S.takeWhile fun x=>decide (x<a)).getLast? with|some x=>x|none=>f
theorem DW (f x:Int) (r:List Int) (a:Int):Kg f (x::r) a=if x<a then Kg x r a else f:=by
  unfold Kg;rw[cS];by_cases h:x<a
  ·rw[aD h,aD (aG h)]
   cases hc:r.takeWhile fun x=>decide (x<a) with
   | nil=>rfl
   | cons y s=>rw[List.getLast?_cons_cons];rfl
  ·rw[aB h,aB (by simpa using h)];rfl
theorem CB {S:List Int} {i:Nat} {x:Int} (h:S[i]? = some x):S.drop i=x::S.drop (i+1):=by
  obtain⟨h1,h2⟩:=ay.1 h;rw[cV h1,h2]
theorem zJ:∀l:List Int,(kC l).length≤l.length
  | []=>au _
  | a::l=>by
    have h:=zJ l;unfold kC
    cases hc:kC l with
    | nil=>simp
    | cons b s=>
      rw[hc] at h;simp only;split
      ·simp at h ⊢;omega
      ·simp at h ⊢;omega
structure uN (l:List UInt8) (k:Int):Prop where
  c:sC l
  b:KS (jy l k) (l.length:Int)
  n:(mD l k).length≤50000
  l:l.length≤900
theorem uN.len {l:List UInt8} {k:Int} (h:uN l k):(gU (jy l k) (l.length:Int)).length≤60000:=by
  have h1:=zJ (0::jy l k++[(l.length:Int)]);have h2:=h.n;have h3:(jy l k).length=(mD l k).length:=by unfold jy;simp
  unfold gU;simp only[aH,aP,bI] at h1;omega
theorem rV (l:List UInt8) (a k:Int) (hk:uN l k) (w:World) :
    jL 23 #[.string ⟨l.toArray⟩,.int .i64 a,.int .i64 k] w (.int .i64 (pE (gU (jy l k) (l.length:Int)) (l.length:Int) (sj (l.length:Int) a))):=by
  have hc:=fun W=>tp l k hk.c hk.b hk.n hk.l W
  have hS:=hk.len;generalize gU (jy l k) (l.length:Int)=S at *;have hi:=fun W=>tq l a W
  generalize sj (l.length:Int) a=m at *;have H:=aa (ac hi hc);clear hi hc hk;go_enter Tryz.func23,Tryz.ntmps23;go_wp2_with fail;refine wp_scope_straight ?_;go_wp2_with (
    (go_at_call 53;refine(H.out.1 _).mono ?_;rintro e w2 ⟨rfl,rfl⟩))
  refine wp_label ?_;go_wp2_with (
    (go_at_call 19;refine(H.out.2 _).mono ?_;rintro e w3 ⟨v3,rfl,h1,h2⟩;obtain⟨A3,n3,c3,rfl⟩:=dR h1;obtain rfl:=ei h1;have H3:=aa (ac h1 h2);clear h1 h2))
  go_loopw [7,19] (fun t i wr=>∃q:Nat,q≤S.length∧i=.int .i64 q∧t=.int .i64 (l.length:Int)∧pE (S.drop q) (l.length:Int) m=pE S (l.length:Int) m∧wr=w3) (fun t i _=>S.length-(intOf i).toNat)
  case atStart=>exact⟨0,bv _,rfl,rfl,rfl,rfl⟩
  case round=>
    obtain⟨q,hq,rfl,rfl,hf,hw⟩:=hrel;obtain rfl:=hw.symm;by_cases hlt:q<S.length
    ·obtain⟨x,hx⟩:∃x,S[q]? = some x:=⟨_,ax hlt⟩;obtain⟨g,rfl⟩:=jb H3.out.1 (by omega);have c0:=dW H3.out.1 _ _ (l6 hx);rw[CB hx,Dx] at hf;have u1:(q:Int)<(S.length:Int):=by omega
     have u2:(0:Int)≤(q:Int):=by omega
     clear hx;by_cases hm:m<x
     ·rw[aD hm] at hf;have t1:decide (m<x)=true:=by simpa using hm
      have HF:=aa hf;clear hf hm;go_wp2_with fail;go_ret;exact⟨by rw[←HF.out];rfl,H3.out.2⟩
     ·rw[aB hm] at hf;have t1:decide (m<x)=false:=by simpa using hm
      have HF:=aa hf;clear hf hm;go_wp2_with fail;exact⟨⟨q+1,by omega,by go_num,rfl,HF.out,trivial⟩,by simp[intOf];omega⟩
    ·obtain rfl:q=S.length:=by omega
     rw[List.drop_length] at hf;have HF:=aa hf;clear hf;go_wp2_with fail;go_ret;exact⟨by rw[←HF.out];rfl,H3.out.2⟩
theorem Ih (l:List UInt8) (a k:Int) (hk:uN l k) (w:World) :
    jL 24 #[.string ⟨l.toArray⟩,.int .i64 a,.int .i64 k] w (.int .i64 (sJ (gU (jy l k) (l.length:Int)) (sj (l.length:Int) a))):=by
  have hc:=fun W=>tp l k hk.c hk.b hk.n hk.l W
  have hS:=hk.len;generalize gU (jy l k) (l.length:Int)=S at *;have hi:=fun W=>tq l a W
  generalize sj (l.length:Int) a=m at *;have H:=aa (ac hi hc);clear hi hc hk;go_enter Tryz.func24,Tryz.ntmps24;go_wp2_with fail;refine wp_scope_straight ?_;go_wp2_with (
    (go_at_call 53;refine(H.out.1 _).mono ?_;rintro e w2 ⟨rfl,rfl⟩))
  refine wp_label ?_;go_wp2_with (
    (go_at_call 19;refine(H.out.2 _).mono ?_;rintro e w3 ⟨v3,rfl,h1,h2⟩;obtain⟨A3,n3,c3,rfl⟩:=dR h1;obtain rfl:=ei h1;have H3:=aa (ac h1 h2);clear h1 h2))
  go_loopw [7,17] (fun t i wr=>∃q:Nat,q≤S.length∧i=.int .i64 q∧(∃f:Int,t=.int .i64 f∧Kg f (S.drop q) m=sJ S m)∧wr=w3) (fun t i _=>S.length-(intOf i).toNat)
  case atStart=>exact⟨0,bv _,rfl,⟨0,rfl,rfl⟩,rfl⟩
  case round=>
    obtain⟨q,hq,rfl,⟨f,rfl,hf⟩,hw⟩:=hrel;obtain rfl:=hw.symm;by_cases hlt:q<S.length
    ·obtain⟨x,hx⟩:∃x,S[q]? = some x:=⟨_,ax hlt⟩;obtain⟨g,rfl⟩:=jb H3.out.1 (by omega);have c0:=dW H3.out.1 _ _ (l6 hx);rw[CB hx,DW] at hf;have u1:(q:Int)<(S.length:Int):=by omega
     have u2:(0:Int)≤(q:Int):=by omega
     clear hx;by_cases hm:x<m
     ·rw[aD hm] at hf;have t1:decide (m≤x)=false:=by simpa using hm
      have HF:=aa hf;clear hf hm;go_wp2_with fail;exact⟨⟨q+1,by omega,by go_num,⟨_,rfl,HF.out⟩,trivial⟩,by simp[intOf];omega⟩
     ·rw[aB hm] at hf;have t1:decide (m≤x)=true:=by simpa using hm
      have HF:=aa hf;clear hf hm;go_wp2_with fail;go_ret;exact⟨by rw[←HF.out];rfl,H3.out.2⟩
    ·obtain rfl:q=S.length:=by omega
     rw[List.drop_length] at hf;have HF:=aa hf;clear hf;go_wp2_with fail;go_ret;exact⟨by rw[←HF.out];rfl,H3.out.2⟩
def GT (k:Nat):UInt8:=if k=9 then 125 else if k=10 then 41 else if k=11 then 102 else if k=12∨k=13 then 103 else if k=14 then 122 else 0
theorem JV (k:Nat) (w:World):vZ 88 #[.int .i64 (k:Int)] w (.int .u8 ((GT k).toNat:Int)):=by
  have key:k=9∨k=10∨k=11∨k=12∨k=13∨k=14∨(((k:Int)==9)=false∧((k:Int)==10)=false∧((k:Int)==11)=false∧((k:Int)==12)=false∧((k:Int)==13)=false∧((k:Int)==14)=false∧GT k=0):=by
    by_cases h1:k=9
    ·exact .inl h1
    by_cases h2:k=10
    ·exact .inr (.inl h2)
    by_cases h3:k=11
    ·exact .inr (.inr (.inl h3))
    by_cases h4:k=12
    ·exact .inr (.inr (.inr (.inl h4)))
    by_cases h5:k=13
    ·exact .inr (.inr (.inr (.inr (.inl h5))))
    by_cases h6:k=14
    ·exact .inr (.inr (.inr (.inr (.inr (.inl h6)))))
    ·exact .inr (.inr (.inr (.inr (.inr (.inr ⟨aJ (by omega),aJ (by omega),aJ (by omega),aJ (by omega),aJ (by omega),aJ (by omega),by unfold GT;simp[h1,h2,h3,h4,h5,h6]⟩)))))
  rcases key with rfl|rfl|rfl|rfl|rfl|rfl|⟨t1,t2,t3,t4,t5,t6,hE⟩
  all_goals (
    go_enter Tryz.func88,Tryz.ntmps88;go_wp2;go_ret)
  all_goals first
    | exact⟨rfl,rfl⟩
    | exact⟨by rw[hE];rfl,rfl⟩
abbrev L5 (x:Int×Int):Array Value:=#[.int .i64 x.1,.int .i64 x.2]
def YP (l':Nat) (N:List (Int×Int)) (n₀:Nat) (Xc:Nat→Prop) (J Jx:(Nat→Prop)→List (Int×Int)→World→Prop):Prop:=
  ∀X pre x W1,J X pre W1→pre++[x]<+:N→∀m,YieldAt Fence.wide m Tryz.prog l' (L5 x) W1 fun e W'=>
   (e=.returned (.bool true)∧J X (pre++[x]) W'∧eN n₀ Xc W1 W'∧∀k,X k→W'.heap[k]? = W1.heap[k]?)∨(e=.returned (.bool false)∧Jx X (pre++[x]) W'∧eN n₀ Xc W1 W'∧∀k,X k→W'.heap[k]? = W1.heap[k]?)
def Ku (x:Lf) (q:fh):List (Int×Int):=if (q.mode=12∨q.mode=13∨q.mode=14)∨q.op=true then [] else [(x.fr+q.fr,x.fr+q.to-1)]
def MM (x:Lf):List (Int×Int):=(eC x.tx).flatMap (Ku x)
theorem C8 (n l':Nat) (N:List (Int×Int)) (n₀:Nat) (Xc X:Nat→Prop) (J Jx:(Nat→Prop)→List (Int×Int)→World→Prop) (hF:kH J) (hY:YP l' N n₀ Xc J Jx) (x:Lf) (hl:x.tx.length≤900) (hx0:0≤x.fr) (hx1:x.fr≤1000000) (W:World) (pre:List (Int×Int))
    (hJ:pN J W W n₀ Xc X X pre) (hN:pre++MM x<+:N) :
    CallsIn Fence.wide n Tryz.prog 90 #[LI x,.func (.yield l') #[] #[]] W fun e W'=>
      (e=.returned (.bool true)∧∃X',pN J W W' n₀ Xc X X' (pre++MM x))∨(e=.returned (.bool false)∧∃X' ys,Jx X' ys W'):=by
  obtain⟨P,hP⟩:∃P,P=eC x.tx:=⟨_,rfl⟩;have hof:=fun W=>Nc x.tx W hl
  have hpl:P.length≤100000:=by rw[hP];have:=oz x.tx;omega
  have hq:MM x=P.flatMap (Ku x):=by rw[hP];rfl
  have hpt:∀q∈P,∃pf pt:Nat,q.fr=(pf:Int)∧q.to=(pt:Int)∧pf<pt∧pt≤900:=fun q hq=>by
    rw[hP] at hq;obtain⟨pf,pt,hp1,hp2,hp3,hp4,_⟩:=tP hq;exact⟨pf,pt,by omega,by omega,by omega,by omega⟩
  rw[←hP] at hof;rw[hq] at hN ⊢;have HC:=aa hof;have HK:=aa (ac hY (ac hJ (ac hN hpt)));clear hof hY hJ hN hpt hq hP;unfold LI;refine dk Tryz.func90 rfl trivial ?_ rfl;simp only[Tryz.ntmps90,bU,aP,bI,Nat.reduceAdd,Nat.reduceSub,bE,bF,bV,bJ,bT,bu];gi_wp2_with fail;refine wpIn_wide.2 (wp_scope_straight ((wpIn_wide (n:=n)).1 ?_));gi_wp2_with fail;refine wpIn_label ?_
  gi_wp2_with (first
    | (refine⟨trivial,fun h=>by simp[Fence.wide] at h,?_⟩;gi_at_call 115;refine(aU.2 (HC.out _)).mono ?_;rintro e w2 ⟨v2,rfl,ho,hb⟩;obtain⟨A2,n2,c2,rfl⟩:=dR ho;obtain rfl:=ei ho;have H2:=aa (ac ho hb);clear ho hb))
  obtain⟨W1,hW1⟩:∃W1,W1=W.alloc (.cells #[.int .i64 x.kd,.string ⟨x.tx.toArray⟩,.int .i64 x.fr,.int .i64 x.to] 29):=⟨_,rfl⟩;have hb1:Below W.heap.size W W1:=by rw[hW1];exact(aC _ _).alloc (au _) _
  have hk1:Bk W1 W.heap.size 29 #[.int .i64 x.kd,.string ⟨x.tx.toArray⟩,.int .i64 x.fr,.int .i64 x.to]:=by rw[hW1];exact Bk.new _ _ _
  have hs1:W1.heap.size=W.heap.size+1:=by rw[hW1];simp
  have h2:=H2.out;rw[←hW1] at h2;have hst:∃X2,pN J W w2 n₀ Xc X X2 pre∧Bk w2 W.heap.size 29 #[.int .i64 x.kd,.string ⟨x.tx.toArray⟩,.int .i64 x.fr,.int .i64 x.to]∧X2 W.heap.size∧w2.ownsRow 0 79 5 (.slice A2 P.length c2) P.length (fw P)∧∀k,(Value.slice A2 P.length c2).ownBlock=some k→X2 k:=by
    have d1:=HK.out.2.1.below hF hb1;exact⟨_,d1.below hF h2.2,hk1.below h2.2 hk1.lt,.inl (.inr ⟨au _,by omega⟩),fK h2.1 (bv _),fun k hk=>.inr (h2.1.lt k hk)⟩
  have HS:=aa hst;obtain⟨bx,hbx⟩:∃bx,bx=W.heap.size:=⟨_,rfl⟩;rw[←hbx] at HS ⊢;clear hst h2 hb1 hk1 hs1 hW1 H2 hbx;gi_loopw [11] (fun i wr=>∃(f:Nat) (X2:Nat→Prop),f≤P.length∧i=.int .i64 f∧pN J W wr n₀ Xc X X2 (pre++(P.take f).flatMap (Ku x))∧Bk wr bx 29 #[.int .i64 x.kd,.string ⟨x.tx.toArray⟩,.int .i64 x.fr,.int .i64 x.to]∧X2 bx∧wr.ownsRow 0 79 5 (.slice A2 P.length c2) P.length (fw P)∧∀k,(Value.slice A2 P.length c2).ownBlock=some k→X2 k) (fun i _=>P.length-(intOf i).toNat)
  case atStart=>
    obtain⟨X2,h⟩:=HS.out;exact⟨0,X2,bv _,rfl,by simpa using h.1,h.2⟩
  case round=>
    obtain⟨f,X2,hf,rfl,hd,hk,hxb,ho,hxo⟩:=hrel;by_cases hfl:f<P.length
    ·have v0:(f:Int)<(P.length:Int):=by omega
     have v00:(0:Int)≤(f:Int):=by omega
     obtain⟨q,hq⟩:∃q,P[f]? = some q:=⟨_,ax hfl⟩;obtain⟨g2,o2,rfl,_,hc⟩:=iK (lay:=iq) (fun _=>rfl) (Rd.of_own ho) hq rfl;obtain⟨M,hM⟩:∃M:Int,M=q.mode:=⟨_,rfl⟩;obtain⟨O,hO⟩:∃O:Bool,O=q.op:=⟨_,rfl⟩;obtain⟨pf,pt,hp1,hp2,hp3,hp4⟩:=HK.out.2.2.2 q (aO hq);have z0:wr.cell? ⟨g2,o2+f*5,none⟩=some (.int .i64 M):=by rw[hM];exact hc 0 _ rfl
     have z1:wr.cell? ⟨g2,o2+f*5+1,none⟩=some (.int .i64 (pf:Int)):=by rw[←hp1];exact hc 1 _ rfl
     have z2:wr.cell? ⟨g2,o2+f*5+2,none⟩=some (.int .i64 (pt:Int)):=by rw[←hp2];exact hc 2 _ rfl
     have z3:wr.cell? ⟨g2,o2+f*5+3,none⟩=some (.int .i64 q.up):=hc 3 _ rfl;have z4:wr.cell? ⟨g2,o2+f*5+4,none⟩=some (.bool O):=by rw[hO];exact hc 4 _ rfl
     have y2:wr.cell? ⟨bx,2,none⟩=some (.int .i64 x.fr):=by rw[hk.cell];rfl
     have hbl:=hk.lt;have hsuc:=mX (Ku x) hq;have hpre:=nS (Ku x) P (f+1);obtain⟨wo,hwo⟩:∃wo:World,wo=wr.alloc (.cells #[.int .i64 M,.int .i64 (pf:Int),.int .i64 (pt:Int),.int .i64 q.up,.bool O] 79):=⟨_,rfl⟩;have hbo:Below wr.heap.size wr wo:=by rw[hwo];exact(aC _ _).alloc (au _) _
     have hdo:=hd.below hF hbo;have HR:=aa (ac hdo (ac (hk.below hbo hbl) (ac (show iV X2 wr wo bx from .inl hxb) (ac (dS ho hbo) (show ∀k,(Value.slice (some ⟨g2,o2,none⟩) P.length c2).ownBlock=some k→iV X2 wr wo k from fun k hk=>.inl (hxo k hk))))));have w1:IntKind.i64.wrap (x.fr+(pf:Int))=x.fr+(pf:Int):=aS _ (by omega);have w2:IntKind.i64.wrap (x.fr+(pt:Int))=x.fr+(pt:Int):=aS _ (by omega);have w3:IntKind.i64.wrap (x.fr+(pt:Int)-1)=x.fr+(pt:Int)-1:=aS _ (by omega);have key:((M=12∨(M=13)∨(M=14)∨((M==12)=false∧(M==13)=false∧(M==14)=false∧O=true))∧Ku x q=[])∨(((M==12)=false∧(M==13)=false∧(M==14)=false∧O=false)∧Ku x q=[(x.fr+(pf:Int),x.fr+(pt:Int)-1)]):=by
       unfold Ku;rw[←hM,←hO,hp1,hp2];by_cases h1:M=12
       ·exact .inl ⟨.inl h1,by simp[h1]⟩
       by_cases h2:M=13
       ·exact .inl ⟨.inr (.inl h2),by simp[h2]⟩
       by_cases h3:M=14
       ·exact .inl ⟨.inr (.inr (.inl h3)),by simp[h3]⟩
       cases O
       ·exact .inr ⟨⟨aJ h1,aJ h2,aJ h3,rfl⟩,by simp[h1,h2,h3]⟩
       ·exact .inl ⟨.inr (.inr (.inr ⟨aJ h1,aJ h2,aJ h3,rfl⟩)),by simp⟩
     clear hc hq hbo hdo hd hk hxb ho hxo hM hO hp1 hp2;rcases key with ⟨hway,hE⟩|⟨⟨t1,t2,t3,rfl⟩,hE⟩
     ·rw[hE,bz] at hsuc;have HX:=aa hsuc;clear hsuc hpre hE;rcases hway with rfl|rfl|rfl|⟨t1,t2,t3,rfl⟩
      all_goals (
        gi_wp2_with (first
          | ((with_reducible refine⟨fun f h=>?_,?_⟩);cases h))
        rw[←hwo];exact⟨⟨f+1,_,by omega,by go_num,by rw[HX.out];exact HR.out.1,HR.out.2⟩,by simp[intOf];omega⟩)
     ·rw[hE] at hsuc;rw[hsuc] at hpre;obtain⟨fn,tmps,assign,body,hy,hRR⟩:=HK.out.1 _ _ (x.fr+(pf:Int),x.fr+(pt:Int)-1) wo HR.out.1.j (by rw[cO];exact((List.prefix_append_right_inj _).2 hpre).trans HK.out.2.2.1) (n-1);have hR2:=aa hRR;simp only[L5] at hy;rw[hwo] at hy;have hy2:=aa hy;have HX:=aa hsuc;clear hRR hy hpre hsuc hE;gi_wp2_with fail;rw[hy2.out];gi_wp2_with fail;refine⟨fun h=>by simp[Fence.wide] at h,?_⟩;rw[←hwo];refine hR2.out.mono ?_;rintro e W3 (⟨rfl,hJ3,hk3,hx3⟩|⟨rfl,hJx3,hk3,hx3⟩)
      ·have H3:=aa (ac (HR.out.1.next hJ3 hk3 hx3) (ac ((hx3 _ HR.out.2.2.1).trans HR.out.2.1) (lp HR.out.2.2.2.1 fun k hk=>hx3 k (HR.out.2.2.2.2 k hk))));clear hJ3 hk3 hx3;gi_wp2_with fail;exact⟨⟨f+1,_,by omega,by go_num,by rw[HX.out,←cO];exact H3.out.1,H3.out.2.1,HR.out.2.2.1,H3.out.2.2,HR.out.2.2.2.2⟩,by simp[intOf];omega⟩
      ·have H3:=aa hJx3;clear hJx3 hk3 hx3;gi_wp2_with fail;rw[bC];refine aK (dv rfl _ _ _) rfl ?_;exact .inr ⟨rfl,_,_,H3.out⟩
    ·obtain rfl:f=P.length:=by omega
     have HE:=aa hd;clear hd hk hxb ho hxo;gi_wp2_with fail;rw[bC];refine aK (dv rfl _ _ _) rfl ?_;exact .inl ⟨rfl,X2,by have h:=HE.out;rwa [dy] at h⟩
def KE (x:Lf):List (Int×Int):=if x.kd=6 then MM x else []
def Jc (l:List UInt8):List (Int×Int):=(f9 l).flatMap KE
structure xA (F:List Lf) (L:List Nd):Prop where
  fn:F.length≤900
  ln:L.length≤90000
  nd:∀x∈L,GT x.kd=0
  lf:∀y∈F,(0≤y.fr∧y.fr≤1000000)∧y.tx.length≤900
def MB (J:(Nat→Prop)→List (Int×Int)→World→Prop) (W wr:World) (n₀:Nat) (Xc:Nat→Prop) (A1:Option Addr) (c1:Nat) (F:List Lf) (A2:Option Addr) (c2:Nat) (L:List Nd) (X:Nat→Prop) (pr:List (Int×Int)):Prop:=
  pN J W wr n₀ Xc (fun _=>False) X pr∧wr.ownsRow 0 29 4 (.slice A1 F.length c1) F.length (iF F)∧wr.ownsRow 0 56 4 (.slice A2 L.length c2) L.length (gQ L)∧(∀k,(Value.slice A1 F.length c1).ownBlock=some k→X k)∧∀k,(Value.slice A2 L.length c2).ownBlock=some k→X k
section
variable {J:(Nat→Prop)→List (Int×Int)→World→Prop} {W wr w':World} {n₀:Nat} {Xc X:Nat→Prop} {A1 A2:Option Addr} {c1 c2:Nat} {F:List Lf} {L:List Nd} {pr pr':List (Int×Int)}
theorem MB.below (hF:kH J) (h:MB J W wr n₀ Xc A1 c1 F A2 c2 L X pr) (hb:Below wr.heap.size wr w'):MB J W w' n₀ Xc A1 c1 F A2 c2 L (iV X wr w') pr:=
  ⟨h.1.below hF hb,dS h.2.1 hb,dS h.2.2.1 hb,fun k hk=>.inl (h.2.2.2.1 k hk),fun k hk=>.inl (h.2.2.2.2 k hk)⟩
end
theorem FE (n l' Bn n₀:Nat) (Xc:Nat→Prop) (l:List UInt8) (hok:xA (f9 l) (eP (f9 l)).l) (J Jx:(Nat→Prop)→List (Int×Int)→World→Prop) (hF:kH J) (hY:YP l' (Jc l) n₀ Xc J Jx) (hl:l.length≤900) (W:World) (hBn:Bk W Bn 9 #[.string ⟨l.toArray⟩]) (wn:n₀≤W.heap.size) (h0:J (fun _=>False) [] W) :
    CallsIn Fence.wide n Tryz.prog 87 #[.func (.yield l') #[] #[],.pointer (some ⟨Bn,0,none⟩)] W fun e W'=>(∃v,e=.returned v)∧((∃xs X,xs=Jc l∧J X xs W')∨(∃pre X,True∧Jx X pre W')):=by
  have c1:=fun W=>Kw l W hl
  unfold Jc at hY ⊢;obtain⟨F,hFe⟩:∃F,F=f9 l:=⟨_,rfl⟩;rw[←hFe] at c1 hY hok ⊢;obtain⟨L,hLe⟩:∃L,L=(eP F).l:=⟨_,rfl⟩;rw[←hLe] at c1 hok;have y0:W.cell? ⟨Bn,0,none⟩=some (.string ⟨l.toArray⟩):=by rw[hBn.cell];rfl
  have hll:=hok.ln;have hfl9:=hok.fn;have HC:=aa c1;have HK:=aa (ac hY (ac h0 hok));clear c1 hFe hLe hY h0 hok hBn;refine dk Tryz.func87 rfl trivial ?_ rfl;simp only[Tryz.ntmps87,bU,aP,bI,Nat.reduceAdd,Nat.reduceSub,bE,bF,bV,bJ,bT,bu]
  gi_wp2_with (first
    | (refine⟨trivial,fun h=>by simp[Fence.wide] at h,?_⟩;gi_at_call 11;refine(aU.2 (HC.out _)).mono ?_;rintro e w1 ⟨v1,v2,rfl,ho1,ho2,hb⟩;obtain⟨A1,n1,c1,rfl⟩:=dR ho1;obtain rfl:=ei ho1;obtain⟨A2,n2,c2,rfl⟩:=dR ho2;obtain rfl:=ei ho2;have H1:=aa (ac ho1 (ac ho2 hb));clear ho1 ho2 hb))
  have hst:∃X,MB J W w1 n₀ Xc A1 c1 F A2 c2 L X []:=by
    obtain⟨ho1,ho2,hb⟩:=H1.out;exact⟨_,(pN.start (Xc:=Xc) HK.out.2.1 (fun k hk=>hk.elim) wn).below hF hb,fK ho1 (bv _),fK ho2 (bv _),fun k hk=>.inr (ho1.lt k hk),fun k hk=>.inr (ho2.lt k hk)⟩
  have HS:=aa hst;clear hst y0;gi_loopw [17] (fun i wr=>∃(k:Nat) (X:Nat→Prop),k≤L.length∧i=.int .i64 k∧MB J W wr n₀ Xc A1 c1 F A2 c2 L X []) (fun i _=>L.length-(intOf i).toNat)
  case atStart=>
    obtain⟨X,h⟩:=HS.out;exact⟨0,X,bv _,rfl,h⟩
  case round=>
    obtain⟨k,X,hk,rfl,hp⟩:=hrel;by_cases hkl:k<L.length
    ·have v0:(k:Int)<(L.length:Int):=by omega
     have v00:(0:Int)≤(k:Int):=by omega
     obtain⟨x,hx⟩:∃x,L[k]? = some x:=⟨_,ax hkl⟩;obtain⟨g2,o2,rfl,_,hc2⟩:=iK jk (Rd.of_own hp.2.2.1) hx rfl;have z0:wr.cell? ⟨g2,o2+k*4,none⟩=some (.int .i64 (x.kd:Int)):=hc2 0 _ rfl;have z1:wr.cell? ⟨g2,o2+k*4+1,none⟩=some (.int .i64 (x.fr:Int)):=hc2 1 _ rfl;have z2:wr.cell? ⟨g2,o2+k*4+2,none⟩=some (.int .i64 (x.tt:Int)):=hc2 2 _ rfl;have z3:wr.cell? ⟨g2,o2+k*4+3,none⟩=some (.int .i64 x.up):=hc2 3 _ rfl;obtain⟨wo,hwo⟩:∃wo:World,wo=wr.alloc (.cells #[.int .i64 (x.kd:Int),.int .i64 (x.fr:Int),.int .i64 (x.tt:Int),.int .i64 x.up] 56):=⟨_,rfl⟩;have hbo:Below wr.heap.size wr wo:=by rw[hwo];exact(aC _ _).alloc (au _) _
     have hko:Bk wo wr.heap.size 56 #[.int .i64 (x.kd:Int),.int .i64 (x.fr:Int),.int .i64 (x.tt:Int),.int .i64 x.up]:=by rw[hwo];exact Bk.new _ _ _
     have hso:wo.heap.size=wr.heap.size+1:=by rw[hwo];simp
     have hpo:=hp.below hF hbo;have hE:=fun W=>JV x.kd W
     rw[HK.out.2.2.nd x (aO hx)] at hE;have HR:=aa (ac hpo hE);clear hc2 hx hp hbo hpo hE hko
     gi_wp2_with (first
       | (refine⟨trivial,fun h=>by simp[Fence.wide] at h,?_⟩;gi_at_call 88;refine(aU.2 (HR.out.2 _)).mono ?_;rintro e w3 ⟨rfl,hw3⟩;obtain rfl:=hw3.symm;clear hw3)
       | ((with_reducible refine⟨fun f h=>?_,?_⟩);cases h))
     rw[←hwo];exact⟨⟨k+1,_,by omega,by go_num,HR.out.1⟩,by simp[intOf];omega⟩
    ·obtain rfl:k=L.length:=by omega
     have HE:=aa hp;clear hp;gi_wp2_with fail;gi_loopw [51] (fun i wr=>∃(f:Nat) (X:Nat→Prop),f≤F.length∧i=.int .i64 f∧MB J W wr n₀ Xc A1 c1 F A2 c2 L X ((F.take f).flatMap KE)) (fun i _=>F.length-(intOf i).toNat)
     case atStart=>exact⟨0,X,bv _,rfl,by rw[List.take_zero];exact HE.out⟩
     case round=>
       obtain⟨f,X2,hf,rfl,hp⟩:=hrel;by_cases hfl:f<F.length
       ·have v0:(f:Int)<(F.length:Int):=by omega
        have v00:(0:Int)≤(f:Int):=by omega
        obtain⟨x,hx⟩:∃x,F[f]? = some x:=⟨_,ax hfl⟩;obtain⟨g1,o1,rfl,_,hc1⟩:=iK (lay:=LJ) (fun _=>rfl) (Rd.of_own hp.2.1) hx rfl;obtain⟨KD,hKD⟩:∃KD:Int,KD=x.kd:=⟨_,rfl⟩;have z0:wr.cell? ⟨g1,o1+f*4,none⟩=some (.int .i64 KD):=by rw[hKD];exact hc1 0 _ rfl
        have z1:wr.cell? ⟨g1,o1+f*4+1,none⟩=some (.string ⟨x.tx.toArray⟩):=hc1 1 _ rfl;have z2:wr.cell? ⟨g1,o1+f*4+2,none⟩=some (.int .i64 x.fr):=hc1 2 _ rfl;have z3:wr.cell? ⟨g1,o1+f*4+3,none⟩=some (.int .i64 x.to):=hc1 3 _ rfl;obtain⟨wo,hwo⟩:∃wo:World,wo=wr.alloc (.cells #[.int .i64 KD,.string ⟨x.tx.toArray⟩,.int .i64 x.fr,.int .i64 x.to] 29):=⟨_,rfl⟩;have hbo:Below wr.heap.size wr wo:=by rw[hwo];exact(aC _ _).alloc (au _) _
        have hpo:=hp.below hF hbo;have hsuc:=mX KE hx;have hpre:=nS KE F (f+1);have hxf:=(HK.out.2.2.lf x (aO hx)).1;have hxt:=(HK.out.2.2.lf x (aO hx)).2;have HR:=aa (ac hpo hsuc);clear hc1 hx hp hbo hpo;by_cases h6:KD=6
        ·subst h6;have e6:KE x=MM x:=by unfold KE;rw[aD hKD.symm]
         rw[hsuc,e6] at hpre;have hq:=C8 (n-1) l' _ n₀ Xc _ J Jx hF HK.out.1 x hxt hxf.1 hxf.2 wo _ HR.out.1.1.here hpre;unfold LI at hq;rw[←hKD,hwo] at hq;have HQ:=aa (ac hq e6);clear hq e6 hsuc hpre hKD;gi_wp2_with fail;refine⟨trivial,fun h=>by simp[Fence.wide] at h,?_⟩;refine HQ.out.1.mono ?_;rintro e w9 (⟨rfl,X9,hd9⟩|⟨rfl,X9,ys,hx9⟩)
         ·rw[←hwo] at hd9;have H9:=aa (ac (HR.out.1.1.then hd9) (ac (lp HR.out.1.2.1 fun k hk=>hd9.sm k (HR.out.1.2.2.2.1 k hk)) (ac (lp HR.out.1.2.2.1 fun k hk=>hd9.sm k (HR.out.1.2.2.2.2 k hk)) (ac (fun k hk=>hd9.xx k (HR.out.1.2.2.2.1 k hk)) (fun k hk=>hd9.xx k (HR.out.1.2.2.2.2 k hk))))));clear hd9;gi_wp2_with fail;exact⟨⟨f+1,X9,by omega,by go_num,by rw[HR.out.2,HQ.out.2];exact⟨H9.out.1,H9.out.2⟩⟩,by simp[intOf];omega⟩
         ·have H9:=aa hx9;clear hx9;gi_wp2_with fail;refine bn ?_;exact⟨⟨_,rfl⟩,.inr ⟨_,_,trivial,H9.out⟩⟩
        ·have t1:(KD==6)=false:=aJ h6;have e6:KE x=[]:=by unfold KE;rw[aB (by rw[←hKD];exact h6)]
         rw[e6,bz] at hsuc;have HX:=aa hsuc;clear hsuc hpre h6 e6 hKD
         gi_wp2_with (first
           | (refine⟨trivial,?_⟩))
         rw[←hwo];exact⟨⟨f+1,_,by omega,by go_num,by rw[HX.out];exact HR.out.1⟩,by simp[intOf];omega⟩
       ·obtain rfl:f=F.length:=by omega
        have HZ:=aa hp;clear hp;gi_wp2_with fail;go_end0;refine⟨⟨_,rfl⟩,.inl ⟨_,X2,rfl,?_⟩⟩
        have:=HZ.out.1.j
        rwa [dy] at this
def sf (N:List (Int×Int)) (a:Int):Option Int:=match N.find? fun p=>a==p.1||a==p.2 with|some p=>some (if a=p.1 then p.2 else p.1)|none=>none
theorem vG {pre:List (Int×Int)} {p:Int×Int} {N:List (Int×Int)} {a:Int} (hN:pre++[p]<+:N) (hno:∀q∈pre,a≠q.1∧a≠q.2) (hp:a=p.1∨a=p.2):sf N a=some (if a=p.1 then p.2 else p.1):=by
  obtain⟨r,rfl⟩:=hN;unfold sf;have h1:pre.find? (fun p=>a==p.1||a==p.2)=none:=by
    rw[cW];intro q hq
    have:=hno q hq
    simp[this.1,this.2]
  rw[List.find?_append,List.find?_append,h1];have h2:(a==p.1||a==p.2)=true:=by rcases hp with h|h<;>simp[h]
  simp[h2]
theorem F4 {N:List (Int×Int)} {a:Int} (hno:∀q∈N,a≠q.1∧a≠q.2):sf N a=none:=by
  unfold sf;have h1:N.find? (fun p=>a==p.1||a==p.2)=none:=by
    rw[cW];intro q hq
    have:=hno q hq
    simp[this.1,this.2]
  rw[h1]
theorem Jk (l:List UInt8) (w:World) :
    Calls Tryz.prog 51 #[.string ⟨l.toArray⟩] w fun e w'=>e=.returned (.func (.func 87) #[] #[.pointer (some ⟨w.heap.size,0,none⟩)])∧w'=w.alloc (.cells #[.string ⟨l.toArray⟩] 9):=by
  go_enter Tryz.func51,Tryz.ntmps51;go_wp2;go_ret;exact⟨rfl,rfl⟩
theorem Dj (l:List UInt8) (hok:xA (f9 l) (eP (f9 l)).l) (hl:l.length≤900) (Bn n₀:Nat) (Xc:Nat→Prop) (W0:World) (hBn:Bk W0 Bn 9 #[.string ⟨l.toArray⟩]) (hn:n₀≤W0.heap.size) :
    Kl Tryz.prog 87 #[.pointer (some ⟨Bn,0,none⟩)] L5 (eN n₀ Xc) (fun xs=>xs=Jc l) (fun _=>True) (Jc l) W0:=by
  intro n l' J Jx W hW hF _ hY hJ;exact FE n l' Bn n₀ Xc l hok J Jx hF hY hl W (hBn.below hW hBn.lt) (aA hn hW.size) hJ
structure DZ (B N:Nat) (Bw:World) (at_ nv:Int) (ok:Bool) (X:Nat→Prop) (W:World):Prop where
  a:Bk W B 3 #[.int .i64 at_]
  n:Bk W (B+1) 3 #[.int .i64 nv]
  k:Bk W (B+2) 4 #[.bool ok]
  x:∀k,X k→N≤k∧k<W.heap.size
  bl:Below B Bw W
  sz:N≤W.heap.size
theorem DZ.xg {B N:Nat} {Bw:World} {at_ nv:Int} {ok:Bool} {X:Nat→Prop} {A C:World} (hN:B+3≤N) (h:DZ B N Bw at_ nv ok X A) (hx:XG X A C):DZ B N Bw at_ nv ok (iV X A C) C:=by
  have hb:∀k,k<B+3→k<A.heap.size→C.heap[k]? = A.heap[k]? := fun k h1 h2=>hx.block k h2 fun hX=>by have:=(h.x k hX).1;omega
  refine⟨(hb _ (by omega) h.a.lt).trans h.a,(hb _ (by omega) h.n.lt).trans h.n,(hb _ (by omega) h.k.lt).trans h.k,fun k hk=>?_,⟨hx.os.trans h.bl.1,hx.tape.trans h.bl.2,hx.output.trans h.bl.3,aA h.bl.size hx.size,fun k hk=>?_⟩,aA h.sz hx.size⟩
  ·rcases hk with hk|hk
   ·have:=h.x k hk;have:=hx.size;omega
   ·have:=h.sz;omega
  ·have:=h.sz
   exact(hb k (by omega) (by omega)).trans (h.bl.block k hk)
theorem DZ.own {B N M:Nat} {Bw:World} {at_ nv:Int} {ok:Bool} (X:Nat→Prop) (hB:B≤M) (hB2:B≤Bw.heap.size):OwnFrom M (fun (_:Unit) W=>DZ B N Bw at_ nv ok X W):=by
  rintro s W W' row h hg hr;have hk:∀(b:Nat) (t:TypeId) (cs:Array Value),Bk W b t cs→Bk W' b t cs:=fun b t cs hb=>hb.grown hg (fun e=>by
    obtain⟨_,o,ho,hc⟩:=hr _ e.symm;rw[show W.heap[b]? = _ from hb] at ho
    cases ho
    cases hc)
  exact⟨hk _ _ _ h.a,hk _ _ _ h.n,hk _ _ _ h.k,fun k hx=>⟨(h.x k hx).1,bA (h.x k hx).2 hg.size⟩,ownFrom_below (β:=Unit) (w₀:=Bw) (n₀:=B) hB2 hB () W W' row h.bl hg hr,aA h.sz hg.size⟩
theorem Gc {M:Nat} {W:World} {g:Nat} {t:TypeId} {cs:Array Value} {fr:Nat×Nat} (hb:W.heap[g]? = some (.cells cs t fr)) (o:Nat) (v:Value):KeepsFrom M W (W.setCell ⟨g,o,none⟩ v):=by
  refine⟨by simp[World.setCell],fun k ob _ hk hc=>?_⟩;refine(bK _ _ _ k (fun e=>?_)).trans hk;have e':k=g:=e;subst e';rw[hb] at hk
  cases hk
  cases hc
theorem DZ.put {B N M:Nat} {Bw:World} {at_ nv:Int} {ok:Bool} {X:Nat→Prop} {W:World} (hN:B+3≤N) (h:DZ B N Bw at_ nv ok X W) (v:Int) :
    KeepsFrom M W ((W.setCell ⟨B+1,0,none⟩ (.int .i64 v)).setCell ⟨B+2,0,none⟩ (.bool true))∧eN N (fun k=>k<B+3) W ((W.setCell ⟨B+1,0,none⟩ (.int .i64 v)).setCell ⟨B+2,0,none⟩ (.bool true))∧(∀k,X k→((W.setCell ⟨B+1,0,none⟩ (.int .i64 v)).setCell ⟨B+2,0,none⟩ (.bool true)).heap[k]? = W.heap[k]?)∧DZ B N Bw at_ v true X ((W.setCell ⟨B+1,0,none⟩ (.int .i64 v)).setCell ⟨B+2,0,none⟩ (.bool true)):=by
  have k1:Bk (W.setCell ⟨B+1,0,none⟩ (.int .i64 v)) (B+1) 3 #[.int .i64 v]:=by simpa using h.n.set 0 (.int .i64 v)
  have k2:Bk (W.setCell ⟨B+1,0,none⟩ (.int .i64 v)) (B+2) 4 #[.bool ok]:=h.k.far (by show B+2≠B+1;omega) _;have k0:Bk (W.setCell ⟨B+1,0,none⟩ (.int .i64 v)) B 3 #[.int .i64 at_]:=h.a.far (by show B≠B+1;omega) _;have hs:((W.setCell ⟨B+1,0,none⟩ (.int .i64 v)).setCell ⟨B+2,0,none⟩ (.bool true)).heap.size=W.heap.size:=by simp[World.setCell]
  have f1:KeepsFrom M W (W.setCell ⟨B+1,0,none⟩ (.int .i64 v)):=Gc h.n 0 _;have f2:KeepsFrom M (W.setCell ⟨B+1,0,none⟩ (.int .i64 v)) ((W.setCell ⟨B+1,0,none⟩ (.int .i64 v)).setCell ⟨B+2,0,none⟩ (.bool true)):=Gc k2 0 _;refine⟨⟨aA f1.size f2.size,fun k o hM ho hc=>f2.same k o hM (f1.same k o hM ho hc) hc⟩,((eN.refl _ _ _).set (.inr (by show B+1<B+3;omega)) 0 _).trans ((eN.refl _ _ _).set (.inr (by show B+2<B+3;omega)) 0 _),fun k hk=>?_,k0.far (by show B≠B+2;omega) _,k1.far (by show B+1≠B+2;omega) _,by simpa using k2.set 0 (.bool true),fun k hk=>by rw[hs];exact h.x k hk,(h.bl.setCell (p:=⟨B+1,0,none⟩) (by show B≤B+1;omega) _).setCell (p:=⟨B+2,0,none⟩) (by show B≤B+2;omega) _,by rw[hs];exact h.sz⟩;have hk2:=(h.x k hk).1
  exact(bK _ _ _ k (by show k≠B+2;omega)).trans (bK _ _ _ k (by show k≠B+1;omega))
theorem Mu (l:List UInt8) (hok:xA (f9 l) (eP (f9 l)).l) (hl:l.length≤900) (a:Int) (w:World) :
    jL 21 #[.string ⟨l.toArray⟩,.int .i64 a] w (.tuple #[.int .i64 ((sf (Jc l) a).getD 0),.bool (sf (Jc l) a).isSome]):=by
  refine(aU (n:=5)).1 ?_;refine callsIn_of_wp_marks Tryz.func21 rfl trivial ?_ rfl;simp only[Tryz.ntmps21,bU,aP,bI,Nat.reduceAdd,Nat.reduceSub,bE,bF,bV,bJ,bT,bu];gi_wp2_with (
    (refine⟨trivial,?_⟩;gi_at_call 51;refine(aU.2 (Jk l _)).mono ?_;rintro e w2 ⟨rfl,rfl⟩))
  obtain⟨W0,hW0⟩:∃W0,(((w.alloc (.cells #[.int .i64 a] 3)).alloc (.cells #[.int .i64 0] 3)).alloc (.cells #[.bool false] 4)).alloc (.cells #[.string ⟨l.toArray⟩] 9)=W0:=⟨_,rfl⟩;have hs0:W0.heap.size=w.heap.size+4:=by rw[←hW0];simp
  have hb0:Below w.heap.size w W0:=by rw[←hW0];exact((((aC _ w).alloc (au _) _).alloc (by simp) _).alloc (by simp<;>omega) _).alloc (by simp<;>omega) _
  have kA:Bk W0 w.heap.size 3 #[.int .i64 a]:=by rw[←hW0];exact(((Bk.new w _ _).alloc _).alloc _).alloc _
  have kN:Bk W0 (w.heap.size+1) 3 #[.int .i64 0]:=by rw[←hW0];exact((fH w _ _ _ _).alloc _).alloc _
  have kO:Bk W0 (w.heap.size+2) 4 #[.bool false]:=by
    rw[←hW0]
    have:=Bk.new ((w.alloc (.cells #[.int .i64 a] 3)).alloc (.cells #[.int .i64 0] 3)) 4 #[.bool false]
    rw[aV,aV] at this;exact this.alloc _
  have kS:Bk W0 (w.heap.size+3) 9 #[.string ⟨l.toArray⟩]:=by
    rw[←hW0]
    have:=Bk.new (((w.alloc (.cells #[.int .i64 a] 3)).alloc (.cells #[.int .i64 0] 3)).alloc (.cells #[.bool false] 4)) 9 #[.string ⟨l.toArray⟩]
    rw[aV,aV,aV] at this;exact this
  first
    | rw[hW0]
    | (simp only[aV] at hW0 ⊢;rw[hW0])
  clear hW0
  refine nG (by omega) (gf:=87) (lb:=#[.pointer (some ⟨w.heap.size+3,0,none⟩)]) rfl (enters_of Tryz.func87 (by kernel_rfl) rfl)
    (Dj l hok hl (w.heap.size+3) W0.heap.size (fun k=>k<w.heap.size+3) W0 kS (au _)) (fun h k=>h.trans k) (fun W l o o' hl h1 h2 h3=>oJ W l o o' (by omega) h1 h2 h3) (aC _ _) (fun _=>rfl)
    (fun X pre W=>DZ w.heap.size W0.heap.size w a 0 false X W∧∀q∈pre,a≠q.1∧a≠q.2)
    (fun c X pre W=>c=.ret∧∃v,DZ w.heap.size W0.heap.size w a v true X W∧sf (Jc l) a=some v)
    (fun X s A C h hx=>⟨h.1.xg (by omega) hx,h.2⟩) (fun c X s A C h hx=>by obtain⟨h1,v,h2,h3⟩:=h;exact⟨h1,v,h2.xg (by omega) hx,h3⟩)
    (fun X pre W W' row h hg hr=>⟨DZ.own X (by omega) (au _) () W W' row h.1 hg hr,h.2⟩) (fun c X pre W W' row h hg hr=>by obtain⟨h1,v,h2,h3⟩:=h;exact⟨h1,v,DZ.own X (by omega) (au _) () W W' row h2 hg hr,h3⟩)
    ⟨⟨kA,kN,kO,fun k hk=>hk.elim,hb0,au _⟩,fun q hq=>(by simp at hq)⟩
    (fun x a' W=>a'={tmps:=#[.string ⟨l.toArray⟩,.int .i64 a,undef,.pointer (some ⟨w.heap.size,0,none⟩),.pointer (some ⟨w.heap.size+1,0,none⟩),.pointer (some ⟨w.heap.size+2,0,none⟩),.int .i64 x.1,.int .i64 x.2,.string ⟨l.toArray⟩,.func (.func 87) #[] #[.pointer (some ⟨w.heap.size+3,0,none⟩)],.int .i64 x.1,.int .i64 x.2,undef,undef,undef,undef,undef,undef,undef,undef,undef],defers:=[]})
    (fun x a'=>fun _ _ _ _ h _ _=>h) ?assign ?body ?done ?stop
  case assign=>
    intro l' X pre x W K hI hpx hK;gi_wp2;exact hK _ _ (ix (aC _ _)) (eN.refl _ _ _) (fun k hk=>rfl) hI rfl
  case body=>
    rintro l' X pre x a' W hl1 hl2 ⟨hI,hno⟩ rfl hpx;have ca:W.cell? ⟨w.heap.size,0,none⟩=some (.int .i64 a):=by rw[hI.a.cell];rfl
    have cn:W.cell? ⟨w.heap.size+1,0,none⟩=some (.int .i64 0):=by rw[hI.n.cell];rfl
    have ck:W.cell? ⟨w.heap.size+2,0,none⟩=some (.bool false):=by rw[hI.k.cell];rfl
    have fn:=hI.n.frozen 0;have fk:=hI.k.frozen 0;have hp:=fun v=>DZ.put (M:=W0.heap.size) (by omega) hI v
    have HI:=aa (ac hp (ac hI (ac hno hpx)));clear hp hI hno hpx;obtain⟨x1,x2⟩:=x;by_cases h1:a=x1
    ·subst h1;gi_wp2_with fail;have hm:=vG HI.out.2.2.2 HI.out.2.2.1 (.inl rfl);rw[aD rfl] at hm;exact⟨(HI.out.1 x2).1,(HI.out.1 x2).2.1,(HI.out.1 x2).2.2.1,rfl,x2,(HI.out.1 x2).2.2.2,hm⟩
    ·have t1:(a==x1)=false:=aJ h1;by_cases h2:a=x2
     ·subst h2;gi_wp2_with fail;have hm:=vG HI.out.2.2.2 HI.out.2.2.1 (.inr rfl);rw[aB h1] at hm;exact⟨(HI.out.1 x1).1,(HI.out.1 x1).2.1,(HI.out.1 x1).2.2.1,rfl,x1,(HI.out.1 x1).2.2.2,hm⟩
     ·have t2:(a==x2)=false:=aJ h2;gi_wp2_with fail;exact⟨ix (aC _ _),eN.refl _ _ _,fun k hk=>rfl,HI.out.2.1,fun q hq=>by
        rcases aZ.1 hq with hq|hq
        ·exact HI.out.2.2.1 q hq
        ·rw[cE.1 hq];exact⟨h1,h2⟩⟩
  case done=>
    rintro D X ys W hD hys ⟨hI,hno⟩ hK;rw[hys] at hno;have hm:=F4 hno;have hsz:=hI.sz;have fn:=hI.n.frozen 0;have fk:=hI.k.frozen 0;have cn:W.cell? ⟨w.heap.size+1,0,none⟩=some (.int .i64 0):=by rw[hI.n.cell];rfl
    have ck:W.cell? ⟨w.heap.size+2,0,none⟩=some (.bool false):=by rw[hI.k.cell];rfl
    obtain⟨W2,hW2⟩:∃W2,W2=(W.setCell ⟨w.heap.size+1,0,none⟩ (.int .i64 0)).setCell ⟨w.heap.size+2,0,none⟩ (.bool false):=⟨_,rfl⟩;have k1:Bk W2 (w.heap.size+1) 3 #[.int .i64 0]:=by
      have h:Bk (W.setCell ⟨w.heap.size+1,0,none⟩ (.int .i64 0)) (w.heap.size+1) 3 #[.int .i64 0]:=by simpa using hI.n.set 0 (.int .i64 0)
      rw[hW2];exact h.far (by show w.heap.size+1≠w.heap.size+2;omega) _
    have k2:Bk W2 (w.heap.size+2) 4 #[.bool false]:=by
      have h:Bk (W.setCell ⟨w.heap.size+1,0,none⟩ (.int .i64 0)) (w.heap.size+2) 4 #[.bool false]:=hI.k.far (by show w.heap.size+2≠w.heap.size+1;omega) _;rw[hW2];simpa using h.set 0 (.bool false)
    have hb2:Below w.heap.size w W2:=by rw[hW2];exact(hI.bl.setCell (p:=⟨w.heap.size+1,0,none⟩) (by show w.heap.size≤w.heap.size+1;omega) _).setCell (p:=⟨w.heap.size+2,0,none⟩) (by show w.heap.size≤w.heap.size+2;omega) _
    have hK2:W2.heap[D]? = some (.deferred (some [])):=by rw[hW2];exact(bK _ _ _ D (by show D≠w.heap.size+2;omega)).trans ((bK _ _ _ D (by show D≠w.heap.size+1;omega)).trans hK)
    have hbk:=belowK_b (w:=w) (au _) W2 D (.deferred (some [])) (.deferred none) (by omega) hK2 rfl rfl;have k1':Bk (W2.putObj D (.deferred none)) (w.heap.size+1) 3 #[.int .i64 0]:=(World.putObj_heap_other (by omega)).trans k1;have k2':Bk (W2.putObj D (.deferred none)) (w.heap.size+2) 4 #[.bool false]:=(World.putObj_heap_other (by omega)).trans k2;have d1:(W2.putObj D (.deferred none)).cell? ⟨w.heap.size+1,0,none⟩=some (.int .i64 0):=by rw[k1'.cell];rfl
    have d2:(W2.putObj D (.deferred none)).cell? ⟨w.heap.size+2,0,none⟩=some (.bool false):=by rw[k2'.cell];rfl
    have HD:=aa (ac hb2 (ac hbk (ac hm hK2)));clear hb2 hbk hK hK2 hm hno hI k1 k2 k1' k2' hys;gi_wp2_with fail;rw[←hW2];refine⟨by simp,.inl ⟨_,_,rfl,run_takeDeferred HD.out.2.2.2,?_⟩⟩;exact⟨.tuple #[.int .i64 0,.bool false],by simp[results,Tryz.results21,go_sem,d1,d2],⟨by rw[HD.out.2.2.1];rfl,HD.out.1.trans HD.out.2.1⟩⟩
  case stop=>
    rintro D c X pre W hD _ ⟨rfl,v,hI,hm⟩ hK;have hsz:=hI.sz;have hbk:=belowK_b (w:=w) (au _) W D (.deferred (some [])) (.deferred none) (by omega) hK rfl rfl;have k1':Bk (W.putObj D (.deferred none)) (w.heap.size+1) 3 #[.int .i64 v]:=(World.putObj_heap_other (by omega)).trans hI.n;have k2':Bk (W.putObj D (.deferred none)) (w.heap.size+2) 4 #[.bool true]:=(World.putObj_heap_other (by omega)).trans hI.k;have d1:(W.putObj D (.deferred none)).cell? ⟨w.heap.size+1,0,none⟩=some (.int .i64 v):=by rw[k1'.cell];rfl
    have d2:(W.putObj D (.deferred none)).cell? ⟨w.heap.size+2,0,none⟩=some (.bool true):=by rw[k2'.cell];rfl
    have HD:=aa (ac hI.bl (ac hbk (ac hm hK)));clear hbk hK hm hI k1' k2';gi_wp2_with fail;refine⟨by simp,.inl ⟨_,_,rfl,run_takeDeferred HD.out.2.2.2,?_⟩⟩;exact⟨.tuple #[.int .i64 v,.bool true],by simp[results,Tryz.results21,go_sem,d1,d2],⟨by rw[HD.out.2.2.1];rfl,HD.out.1.trans HD.out.2.1⟩⟩
end
section
theorem Fo.ups {b:Nat} {u:Int} {a c:Nat} {l:List Nd} (h:Fo b u a c l):∀x∈l,x.up=u∨((b:Int)≤x.up∧x.up<((b+l.length:Nat):Int)):=by
  induction h with
  | nil _=>intro x hx;cases hx
  | @cons b u a c k x y ks r e1 e2 e3 e4 e5 ih1 ih2=>
    intro q hq;have hl:(⟨k,x,y,u⟩::(ks++r):List Nd).length=1+ks.length+r.length:=by simp;omega
    rw[hl];rcases br.1 hq with rfl|hq
    ·exact .inl rfl
    ·rcases aZ.1 hq with hq|hq
     ·rcases ih1 q hq with h|h
      ·exact .inr ⟨by omega,by omega⟩
      ·exact .inr ⟨by omega,by omega⟩
     ·rcases ih2 q hq with h|h
      ·exact .inl h
      ·exact .inr ⟨by omega,by omega⟩
section
variable {F:List Lf} {L:Ps→Ps}
theorem Cn:∀(m:Nat) (s:Ps),F.length-s.p=m→s.p≤F.length→(dK F s).l=s.l:=by
  intro m
  induction m using Nat.strongRecOn with
  | _ m ih=>
    intro s hm hs;unfold dK;rw[LC.eq kV s hs];by_cases hc:dQ F [110] s=true
    ·have h1:=eh hc (by decide);simp only[hc,bQ];have h2:=ih (F.length-(dM s).p) (by have:(dM s).p=s.p+1:=rfl;omega) (dM s) rfl (by have:(dM s).p=s.p+1:=rfl;omega);unfold dK at h2;exact h2
    ·simp[hc]
theorem Ma (hL:GL F L) {s:Ps} (h:ng F s=true):s.p<(iS F L s).p:=by
  unfold iS;by_cases hc:gu F s=true
  ·rw[aD hc];exact(wZ hL (jP hc)).2
  ·rw[aB hc];by_cases hf:mW F s=true
   ·rw[aD hf];have hx:sg F s.p=120:=by unfold mW at hf;simp at hf;exact hf.1
    exact(wY hL (s:={s with deep:=s.deep+1,l:=s.l++[⟨16,s.p,0,s.up⟩],up:=(s.l.length:Int)}) hx).2.1
   ·rw[aB hf,aD h];obtain⟨u,hu⟩:∃u,u=({s with l:=s.l++[⟨5,s.p,0,s.up⟩],up:=(s.l.length:Int)}:Ps):=⟨_,rfl⟩;show s.p<(fP F {s with l:=s.l++[⟨5,s.p,0,s.up⟩],up:=(s.l.length:Int)}).p;rw[←hu];have hup:u.p=s.p:=by rw[hu]
    have hlt:s.p<F.length:=by
      refine mO ?_;unfold fq;rw[h,Bool.or_true]
    have hway:eK F u=true∨iM F u.p=true:=by
      unfold ng at h;simp only[dm,aR] at h;rcases h with h|h|h
      ·exact .inr (by rw[hup];exact Gz h)
      ·exact .inl (by rw[hu];exact h)
      ·exact absurd h hc
    have hus:u.p≤F.length:=by omega
    have h1:=Gd.loop (iP (F:=F)) _ u rfl hus;have he:=LC.eq (iP (F:=F)) u hus;unfold fP;simp only;obtain⟨s1,hs1⟩:∃s1,s1=eO F.length (fun s=>if eK F s=true then (fI F s,true) else if (iM F s.p&&lI (tx F s.p))=true then (ez 6 s,true) else (s,false)) u:=⟨_,rfl⟩;rw[←hs1] at h1 he ⊢;have h1p:=h1.p;have key:u.p<s1.p∨(s1.p=u.p∧iM F u.p=true):=by
      by_cases hr:eK F u=true
      ·rw[aD (by simp only[hr,bQ])] at he;simp only[hr,bQ] at he;have h2:=mt hr;have h3:=(Gd.loop (iP (F:=F)) _ _ rfl h2.1.N).p;rw[←he] at h3;exact .inl (by omega)
      ·have hw:=hway.resolve_left hr;by_cases ha:lI (tx F u.p)=true
       ·simp only[hr,hw,ha,Bool.and_self,aI,bQ,bp] at he;have h2:=fW (F:=F) (k:=6) (fR hw);have h3:=(Gd.loop (iP (F:=F)) _ _ rfl h2.1.N).p;rw[←he] at h3;exact .inl (by have:=h2.2.1;omega)
       ·simp only[hr,hw,ha,cK,aI,bp] at he;exact .inr ⟨by rw[he],hw⟩
    by_cases hw1:iM F s1.p=true
    ·rw[aD hw1];have h2:=fW (F:=F) (k:=7) (fR hw1);have h3:=(zj (F:=F) h2.2.2.N).p
     have:=h2.2.1
     omega
    ·rw[aB hw1];rcases key with k|⟨k1,k2⟩
     ·omega
     ·rw[k1] at hw1;exact absurd k2 hw1
theorem Ls (hL:GL F L) {s:Ps} (h:fq F s=true):s.p<(jE F L s).p:=by
  unfold jE;rw[aD h];show s.p<(jF F L {s with l:=s.l++[⟨4,s.p,0,s.up⟩],up:=(s.l.length:Int)}).p;obtain⟨t,ht⟩:∃t,t=({s with l:=s.l++[⟨4,s.p,0,s.up⟩],up:=(s.l.length:Int)}:Ps):=⟨_,rfl⟩;rw[←ht];have htp:t.p=s.p:=by rw[ht]
  have hpb:fq F t=fq F s:=by rw[ht];rfl
  have hs:=mO h;unfold jF;have h1:=gr (F:=F) (cs:=[33]) (by decide) (s:=t) (by omega);have h2:=uq hL h1.N;have h3:=Gd.loop (lN hL) _ _ rfl h2.N;have h4:=h3.p;have h5:=h2.p;by_cases hc:dQ F [33] t=true
  ·have e:eB F [33] t=dM t:=by unfold eB;rw[aD hc]
   rw[e] at h4 h5 ⊢
   have:(dM t).p=t.p+1:=rfl
   omega
  ·have e:eB F [33] t=t:=by unfold eB;rw[aB hc]
   rw[e] at h4 h5 ⊢;have hcb:ng F t=true:=by
     rw[←hpb] at h;unfold fq at h;unfold dQ at hc;simp only[dm,aR] at h;rcases h with h|h
     ·exact absurd (by rw[h];decide) hc
     ·exact h
   have:=Ma hL hcb
   omega
theorem Mr (hL:GL F L) {s:Ps} (h:fq F s=true):s.p<(eR F L s).p:=by
  have hs:=mO h;have h1:=Ls hL h;have h2:=uo hL (s:=s) (by omega);have h3:=Gd.loop (su hL) _ _ rfl h2.N
  have:=h3.p
  unfold eR;omega
theorem MG {s:Ps} (hs:s.p≤F.length):(gZ F s).1.l=s.l:=by
  unfold gZ;by_cases h1:dQ F [59,38] s=true
  ·rw[aD h1];have h2:=eh h1 (by decide);exact Cn _ _ rfl (show s.p+1≤_ by omega)
  ·rw[aB h1];by_cases h3:dQ F [110] s=true
   ·rw[aD h3];exact Cn _ _ rfl hs
   ·rw[aB h3]
theorem ED {s:Ps} (h:(gZ F s).2=true):fq F (gZ F s).1=true:=by
  unfold gZ at h ⊢;by_cases h1:dQ F [59,38] s=true
  ·rw[aD h1] at h ⊢;exact h
  ·rw[aB h1] at h ⊢;by_cases h3:dQ F [110] s=true
   ·rw[aD h3] at h ⊢;exact h
   ·rw[aB h3] at h;cases h
theorem Do (hL:GL F L):∀(n:Nat) (s:Ps),F.length-s.p=n→fq F s=true→s.up<(s.l.length:Int)→∃m,(gP F L s).l=s.l++m∧∀x∈m,x.kd=3→x.up=s.up→x.fr<x.tt:=by
  intro n
  induction n using Nat.strongRecOn with
  | _ n ih=>
    intro s hn hp hup;have hs:=mO hp;have hsl:s.p≤F.length:=by omega
    have h1:=Gd.node0 (k:=3) (s:=s) (f:=eR F L) (A:=2) (N:=F.length) fun t ht _=>mV hL (by omega)
    have hlt:s.p<(dO 3 (eR F L) s).p:=Mr hL (s:={s with l:=s.l++[⟨3,s.p,0,s.up⟩],up:=(s.l.length:Int)}) hp;have hr:∃m,(dO 3 (eR F L) s).l=s.l++m∧∀x∈m,x.kd=3→x.up=s.up→x.fr<x.tt:=by
      have h0:=mV hL (s:={s with l:=s.l++[⟨3,s.p,0,s.up⟩],up:=(s.l.length:Int)}) hsl;obtain⟨m,e1,e2⟩:=h0.f;refine⟨⟨3,s.p,(dO 3 (eR F L) s).p,s.up⟩::m,?_,fun x hx hk hu=>?_⟩
      ·show iQ (eR F L {s with l:=s.l++[⟨3,s.p,0,s.up⟩],up:=(s.l.length:Int)}).l s.l.length (eR F L {s with l:=s.l++[⟨3,s.p,0,s.up⟩],up:=(s.l.length:Int)}).p=_;rw[e1,cO,List.singleton_append,sW];rfl
      ·rcases br.1 hx with rfl|hx
       ·exact hlt
       ·have:=e2.ups x hx
        simp only[aH,cR] at this;omega
    unfold gP;rw[LC.eq (jX hL) s hsl];obtain⟨m,e1,e2⟩:=hr;have e3:=MG (F:=F) h1.N;by_cases hc:(gZ F (dO 3 (eR F L) s)).2=true
    ·rw[aD hc];have g1:=(jX hL s hsl).1 hc;have e4:=ED hc;have g2:=mO e4;have e5:(gZ F (dO 3 (eR F L) s)).1.up=s.up:=g1.1.up;obtain⟨m',k1,k2⟩:=ih _ (by have:=g1.2;omega) _ rfl e4 (by rw[e5,e3,e1,aH];omega);unfold gP at k1;refine⟨m++m',by rw[k1,e3,e1,cO],fun x hx hk hu=>?_⟩;rcases aZ.1 hx with hx|hx
     ·exact e2 x hx hk hu
     ·exact k2 x hx hk (by rw[e5];exact hu)
    ·rw[aB hc];exact⟨m,by rw[e3,e1],e2⟩
theorem AF {L':Ps→Ps} (hL':GL F L') (hL:GL F (gP F L')):∀(n:Nat) (x:Ps×Bool),2*F.length+1-iL x=n→x.1.p≤F.length→x.1.up<(x.1.l.length:Int)→(∀q∈x.1.l,q.up<(x.1.l.length:Int)) →
    ∀(v:Nat) (y:Nd),x.1.l.length≤v→(g9 F (gP F L') x).1.l[v]? = some y→y.kd=2→y.up=x.1.up→∀q∈(g9 F (gP F L') x).1.l,q.up=(v:Int)→q.kd=3→q.fr<q.tt:=by
  intro n
  induction n using Nat.strongRecOn with
  | _ n ih=>
    intro x hn hx hu hall v y hv hy hk2 hyu q hq hqv hq3;have hcont:(fJ F (gP F L') x).2=true→g9 F (gP F L') x=g9 F (gP F L') (fJ F (gP F L') x).1:=fun hc=>by rw[nH hL x hx,aD hc]
    have hstep:(hc:(fJ F (gP F L') x).2=true)→2*F.length+1-iL (fJ F (gP F L') x).1<n∧(fJ F (gP F L') x).1.1.p≤F.length:=fun hc=>by
      have h1:=nI hL x hx hc;have h2:=ma h1.2.1;exact⟨by omega,h1.2.1⟩
    by_cases hc:(fJ F (gP F L') x).2=true
    ·have hgo:=hcont hc;obtain⟨hs1,hs2⟩:=hstep hc;rw[hgo] at hy hq;have hih:=ih _ hs1 _ rfl hs2;have hgp:=(mT hL _ _ rfl hs2).1;obtain⟨m2,g1,g2⟩:=hgp.f;obtain⟨s,b⟩:=x;replace hx:s.p≤F.length:=hx;replace hu:s.up<(s.l.length:Int):=hu;replace hall:∀q∈s.l,q.up<(s.l.length:Int):=hall;replace hv:s.l.length≤v:=hv;replace hyu:y.up=s.up:=hyu;unfold fJ at hc hih hy hq g1 g2;by_cases h1:dQ F [110] s=true
     ·simp only[h1,bQ] at hih hy hq;exact hih hu hall v y hv hy hk2 hyu q hq hqv hq3
     ·simp only[h1,bp,aI] at hc hih hy hq g1 g2;by_cases h2:(!b&&fq F s)=true
      ·obtain⟨rfl,h3⟩:b=false∧fq F s=true:=by simpa using h2
       simp only[h2,bQ] at hih hy hq g1 g2;obtain⟨s',hs'⟩:∃s',s'=({s with l:=s.l++[⟨2,s.p,0,s.up⟩],up:=(s.l.length:Int)}:Ps):=⟨_,rfl⟩;obtain⟨m,e1,e2⟩:=Do hL' _ s' rfl (by rw[hs'];exact h3) (by rw[hs'];show (s.l.length:Int)<((s.l++[_]).length:Int);rw[aH,cR];omega);have e3:(dO 2 (gP F L') s).l=s.l++⟨2,s.p,(dO 2 (gP F L') s).p,s.up⟩::m:=by
         show iQ (gP F L' {s with l:=s.l++[⟨2,s.p,0,s.up⟩],up:=(s.l.length:Int)}).l s.l.length (gP F L' {s with l:=s.l++[⟨2,s.p,0,s.up⟩],up:=(s.l.length:Int)}).p=_;rw[←hs',e1,hs'];show iQ ((s.l++[_])++m) _ _=_;rw[cO,List.singleton_append,sW];rfl
       have hups:∀z∈m,z.up=(s.l.length:Int)∨((s.l.length:Int)<z.up∧z.up<((s.l.length+1+m.length:Nat):Int)):=fun z hz=>by
         obtain⟨m',k1,k2⟩:=(hL s' (by rw[hs'];exact hx)).f;rw[e1] at k1;have k3:=List.append_cancel_left k1;subst k3
         have:=k2.ups z hz
         rw[hs'] at this;simp only[aH,cR] at this;omega
       have hlen:(dO 2 (gP F L') s).l.length=s.l.length+1+m.length:=by rw[e3];simp;omega
       have hup1:(dO 2 (gP F L') s).up=s.up:=rfl;have hall1:∀z∈(dO 2 (gP F L') s).l,z.up<((dO 2 (gP F L') s).l.length:Int):=fun z hz=>by
         rw[hlen];rw[e3] at hz;rcases aZ.1 hz with hz|hz
         ·have:=hall z hz;omega
         ·rcases br.1 hz with rfl|hz
          ·show s.up<_;omega
          ·have:=hups z hz;omega
       rcases bZ v (dO 2 (gP F L') s).l.length with hvl|hvl
       ·rw[g1,aW hvl,e3,aX hv] at hy;have hv0:v=s.l.length:=by
          refine Nat.le_antisymm (Nat.le_of_not_lt fun hgt=>?_) hv;obtain⟨j,hj⟩:∃j,v-s.l.length=j+1:=⟨v-s.l.length-1,by omega⟩;rw[hj,cC] at hy
          have:=hups y (aO hy)
          omega
        rw[g1] at hq;rcases aZ.1 hq with hq|hq
        ·rw[e3] at hq;rcases aZ.1 hq with hq|hq
         ·have:=hall q hq;omega
         ·rcases br.1 hq with rfl|hq
          ·cases hq3
          ·exact e2 q hq hq3 (by rw[hs'];show q.up=(s.l.length:Int);omega)
        ·have:=g2.ups q hq
         rw[hlen,hup1] at this;omega
       ·exact hih (by rw[hlen];show s.up<_;omega) hall1 v y hvl hy hk2 hyu q hq hqv hq3
      ·simp only[h2,bp,aI] at hc hih hy hq g1 g2;by_cases h3:s.p<F.length
       ·simp only[h3,bQ] at hih hy hq g1 g2;have e3:(ez 17 s).l=s.l++[⟨17,s.p,s.p+1,s.up⟩]:=by
          show iQ (s.l++[⟨17,s.p,0,s.up⟩]) s.l.length (s.p+1)=_;rw[show s.l++[(⟨17,s.p,0,s.up⟩:Nd)]=s.l++(⟨17,s.p,0,s.up⟩:Nd)::[] from rfl,sW]
        have hlen:(ez 17 s).l.length=s.l.length+1:=by rw[e3];simp
        have hall1:∀z∈(ez 17 s).l,z.up<((ez 17 s).l.length:Int):=fun z hz=>by
          rw[hlen];rw[e3] at hz;rcases aZ.1 hz with hz|hz
          ·have:=hall z hz;omega
          ·rw[cE.1 hz];show s.up<_;omega
        rcases bZ v (ez 17 s).l.length with hvl|hvl
        ·rw[g1,aW hvl,e3,aX hv,show v-s.l.length=0 by omega] at hy;have hy:(⟨17,s.p,s.p+1,s.up⟩:Nd)=y:=by simpa using hy
         rw[←hy] at hk2
         cases hk2
        ·exact hih (by rw[hlen];show s.up<_;omega) hall1 v y hvl hy hk2 hyu q hq hqv hq3
       ·simp only[h3,bp] at hc
        cases hc
    ·have he:(g9 F (gP F L') x).1.l=x.1.l:=by
       rw[nH hL x hx,aB hc];unfold fJ at hc ⊢;by_cases h1:dQ F [110] x.1=true
       ·simp[h1] at hc
       ·simp only[h1,bp,aI] at hc ⊢;by_cases h2:(!x.2&&fq F x.1)=true
        ·simp[h2] at hc
        ·simp only[h2,bp,aI] at hc ⊢;by_cases h3:x.1.p<F.length
         ·simp[h3] at hc
         ·simp only[h3,bp]
     rw[he] at hy
     have:=(ay.1 hy).1
     omega
end
theorem KZ (F:List Lf) {i u:Nat} {x y:Nd} (hx:(eP F).l[i]? = some x) (h3:x.kd=3) (hu:x.up=(u:Int)) (hy:(eP F).l[u]? = some y) (h2:y.kd=2) (h0:y.up=0):x.fr<x.tt:=by
  obtain⟨s0,hs0⟩:∃s0,s0=({iW 0 with l:=(iW 0).l++[⟨1,(iW 0).p,0,(iW 0).up⟩],up:=((iW 0).l.length:Int)}:Ps):=⟨_,rfl⟩;have hp0:s0.p≤F.length:=by rw[hs0];exact bv _
  have e0:s0.l=[⟨1,0,0, -1⟩]:=by rw[hs0];rfl
  have eu:s0.up=0:=by rw[hs0];rfl
  have hg:=(mT (jp F (F.length+1)) _ (s0,false) rfl hp0).1;obtain⟨m,g1,g2⟩:=hg.f;replace g1:(g9 F (uV F) (s0,false)).1.l=s0.l++m:=g1;have hl:(eP F).l=⟨1,0,(g9 F (uV F) (s0,false)).1.p, -1⟩::m:=by
    show iQ (g9 F (uV F) ({iW 0 with l:=(iW 0).l++[⟨1,(iW 0).p,0,(iW 0).up⟩],up:=((iW 0).l.length:Int)},false)).1.l 0 (g9 F (uV F) ({iW 0 with l:=(iW 0).l++[⟨1,(iW 0).p,0,(iW 0).up⟩],up:=((iW 0).l.length:Int)},false)).1.p=_;rw[←hs0,g1,e0];rfl
  rw[hl] at hx hy;have hu1:u≠0:=fun e=>by
    subst e;have hy:(⟨1,0,(g9 F (uV F) (s0,false)).1.p, -1⟩:Nd)=y:=by simpa using hy
    rw[←hy] at h2
    cases h2
  have hi1:i≠0:=fun e=>by
    subst e;have hx:(⟨1,0,(g9 F (uV F) (s0,false)).1.p, -1⟩:Nd)=x:=by simpa using hx
    rw[←hx] at h3
    cases h3
  obtain⟨j,rfl⟩:∃j,i=j+1:=⟨i-1,by omega⟩;obtain⟨v,rfl⟩:∃v,u=v+1:=⟨u-1,by omega⟩;rw[cC] at hx hy;refine AF (jp F F.length) (jp F (F.length+1)) _ (s0,false) rfl hp0 (by show s0.up<(s0.l.length:Int);rw[eu,e0];decide) (fun q hq=>by
    replace hq:q∈s0.l:=hq;show q.up<(s0.l.length:Int);rw[e0] at hq ⊢;rw[cE.1 hq];decide) (v+1) y (by show s0.l.length≤_;rw[e0];simp) ?_ h2 (by rw[h0];exact eu.symm) x ?_ hu h3
  ·show (g9 F (uV F) (s0,false)).1.l[v+1]? = _;rw[g1,e0];exact hy
  ·show x∈(g9 F (uV F) (s0,false)).1.l;rw[g1];exact List.mem_append_right _ (aO hx)
theorem xG.le29 {l:List Nd} {a b:Nat} (h:xG l a b):a≤b:=by
  induction h with
  | refl=>exact au _
  | step _ _ h3 _ ih=>omega
theorem Kk {L:List Nd} (h:pa L):∀(j a c:Nat),xG L a j→a≤c→c≤j→xG L a c:=by
  intro j
  induction j using Nat.strongRecOn with
  | _ j ih=>
    intro a c ha hac hcj;by_cases hcj2:c=j
    ·rw[hcj2];exact ha
    ·cases ha with
     | refl=>omega
     | @step _ p n h1 h2 h3 h4=>
       obtain⟨u,m,k1,k2,k3,_⟩:=(h j n h1).u (by omega);obtain rfl:u=p:=by omega
       rcases bZ u c with hpc|hpc
       ·exact h4.trans (ih (j-1) (by omega) _ c k3 (by omega) (by omega))
       ·exact ih _ h3 a c h4 hac hpc
theorem EL {L:List Nd} {N:Nat} (h:pa L) (h0:L[0]? = some ⟨1,0,N, -1⟩):∀(i:Nat) (x:Nd),L[i]? = some x→x.tt≤N:=by
  intro i
  induction i using Nat.strongRecOn with
  | ind i ih=>
    intro x hx;by_cases hi:i=0
    ·subst hi;rw[h0] at hx;injection hx with hx
     subst hx;exact au _
    ·obtain⟨u,m,_,hu,_,hm,_,h6,_⟩:=(h i x hx).u (by omega);exact aA h6 (ih u hu m hm)
theorem wj {L:List Nd} {i:Nat} (h:lE L i=true):∃x u y,L[i]? = some x∧x.kd=3∧x.up=((u+1:Nat):Int)∧L[u+1]? = some y∧y.kd=2∧y.up=0:=by
  unfold lE at h;split at h
  ·rename_i x hx;simp only[aT,aR,bW] at h;obtain⟨⟨⟨h1,h2⟩,h3⟩,h4⟩:=h;unfold zY at h4;obtain⟨u,hu⟩:∃u:Nat,x.up=((u+1:Nat):Int):=⟨x.up.toNat-1,by omega⟩;rw[hu,Int.toNat_natCast] at h4;split at h4
   ·rename_i y hy;simp only[aT,aR] at h4;exact⟨x,u,y,hx,h1,hu,hy,h4.1,h4.2⟩
   ·cases h4
  ·cases h
theorem Iy {L:List Nd} {N:Nat} (h:pa L) (h0:L[0]? = some ⟨1,0,N, -1⟩) {k i:Nat} (hki:k<i) {q x:Nd} (hk:lE L k=true) (hi:lE L i=true) (hq:L[k]? = some q) (hx:L[i]? = some x):q.tt≤x.fr:=by
  obtain⟨q',uk,yk,a1,a2,a3,a4,a5,a6⟩:=wj hk;obtain⟨x',ui,yi,b1,b2,b3,b4,b5,b6⟩:=wj hi;rw[hq] at a1
  cases a1;rw[hx] at b1
  cases b1;have hk0:0<k:=Nat.pos_of_ne_zero fun e=>by
    subst e;rw[h0] at hq
    cases hq
    cases a2
  obtain⟨u1,m1,c1,c2,c3,c4,c5,c6,c7⟩:=(h i x hx).u (by omega);obtain⟨u2,m2,d1,d2,d3,d4,d5,d6,d7⟩:=(h k q hq).u hk0;obtain rfl:u1=ui+1:=by omega
  obtain rfl:u2=uk+1:=by omega
  rw[b4] at c4
  cases c4;rw[a4] at d4
  cases d4;rcases Nat.lt_trichotomy uk ui with hlt|rfl|hgt
  ·obtain⟨_,_,e1,_,_,_,_,_,e7⟩:=(h _ _ b4).u (by omega)
   have:=e7 (uk+1) yk (by omega) (by omega) a4 (by rw[a6,b6])
   omega
  ·exact c7 k q hk0 hki hq (by omega)
  ·exfalso;have hA:=Kk h (i-1) (ui+1) (uk+1) c3 (by omega) (by omega)
   cases hA with
   | refl=>omega
   | @step _ p n h1 h2 h3 h4=>
     rw[a4] at h1
     cases h1
     have:=h4.le29
     omega
theorem si (l:List UInt8):∀(ts:List Tk) (x:Nat),ve l ts x→(∀y∈fG l (ts.map uP),(x:Int)≤y.fr∧y.fr<(l.length:Int))∧(fG l (ts.map uP)).Pairwise (fun a b=>a.fr<b.fr)
  | [],x,_=>⟨fun y hy=>(by have hy:y∈([]:List Lf):=hy;cases hy),List.Pairwise.nil⟩
  | t::r,x,⟨h1,h2,h3,h4,h5,h6⟩=>by
    obtain⟨i1,i2⟩:=si l r t.to h6;have e:fG l ((t::r).map uP)=kK l (uP t)++fG l (r.map uP):=rfl;have ht:∀y∈kK l (uP t),y.fr=(x:Int):=fun y hy=>by
      have:=(yT hy).2.1
      rw[this];show (t.fr:Int)=_;omega
    rw[e];refine⟨fun y hy=>?_,?_⟩
    ·rcases aZ.1 hy with hy|hy
     ·have:=ht y hy;omega
     ·have:=i1 y hy;omega
    ·rw[dx];refine⟨?_,i2,fun a ha b hb=>?_⟩
     ·unfold kK;split<;>simp
     ·have:=ht a ha;have:=i1 b hb;omega
theorem li (l:List UInt8):(∀y∈f9 l,0≤y.fr∧y.fr<(l.length:Int))∧(f9 l).Pairwise (fun a b=>a.fr<b.fr):=si l _ 0 (q9 l)
theorem Hf (l:List UInt8):sC l∧((uG l).map fun (n:Nat)=>(n:Int)).Pairwise (· < ·)∧∀x∈uG l,x<l.length:=by
  unfold sC uG;obtain⟨F,hF⟩:∃F,F=f9 l:=⟨_,rfl⟩;obtain⟨r1,r2⟩:=li l;rw[←hF] at r1 r2 ⊢;obtain⟨h,r,hr⟩:=vA F;have h0:(eP F).l[0]? = some ⟨1,0,F.length, -1⟩:=by rw[hr];rfl
  have htt:=EL h h0;have key:∀i∈nB (eP F).l (eP F).l.length,∃x y,(eP F).l[i]? = some x∧F[x.fr]? = some y∧x.fr<x.tt:=fun i hi=>by
    have hb:=(List.mem_filter.1 hi).2;obtain⟨x,u,y,a1,a2,a3,a4,a5,a6⟩:=wj hb;have hne:=KZ F a1 a2 a3 a4 a5 a6
    have:=htt i x a1
    exact⟨x,_,a1,ax (by omega),hne⟩
  refine⟨fun i hi=>?_,?_,fun x hx=>?_⟩
  ·obtain⟨x,y,a,b,_⟩:=key i hi;exact⟨x,y,a,b⟩
  ·rw[dJ,List.pairwise_map];have hp:(nB (eP F).l (eP F).l.length).Pairwise (· < ·):=List.Pairwise.filter _ List.pairwise_lt_range;refine List.Pairwise.imp_of_mem ?_ hp;intro k i hk hi hki;obtain⟨q,y,a1,a2,a3⟩:=key k hk;obtain⟨x,z,b1,b2,b3⟩:=key i hi;have ht:=Iy h h0 hki (List.mem_filter.1 hk).2 (List.mem_filter.1 hi).2 a1 b1;show ((mz F (eP F).l k:Nat):Int)<((mz F (eP F).l i:Nat):Int);unfold mz;rw[a1,b1];simp only;rw[a2,b2];simp only;obtain⟨p1,p2⟩:=ay.1 a2;obtain⟨p3,p4⟩:=ay.1 b2
   have:=bN.1 r2 q.fr x.fr p1 p3 (by omega)
   rw[p2,p4] at this;have g1:=(r1 y (aO a2)).1;have g2:=(r1 z (aO b2)).1;omega
  ·obtain⟨i,hi,rfl⟩:=bX.1 hx;obtain⟨x,y,a1,a2,a3⟩:=key i hi;unfold mz;rw[a1];simp only;rw[a2];simp only
   have:=r1 y (aO a2)
   omega
theorem tm (bg:UInt8→UInt8→Bool) (l:List UInt8):KS ((mF bg l l.length).map fun (n:Nat)=>(n:Int)) (l.length:Int):=by
  refine⟨?_,fun x hx=>?_⟩
  ·rw[List.pairwise_map]
   exact(List.Pairwise.filter _ List.pairwise_lt_range).imp fun h=>by omega
  ·obtain⟨n,hn,rfl⟩:=bX.1 hx
   have:=cI.1 (List.mem_filter.1 hn).1
   omega
theorem LG (l:List UInt8):KS ((Ik l).map fun (n:Nat)=>(n:Int)) (l.length:Int):=by
  obtain⟨r1,r2⟩:=li l;unfold Ik;generalize f9 l=F at *
  induction F with
  | nil=>exact⟨.nil,fun x hx=>by cases hx⟩
  | cons y r ih=>
    rw[cP] at r2;obtain⟨i1,i2⟩:=ih (fun z hz=>r1 z (bG _ hz)) r2.2;rw[List.flatMap_cons,cw];have hy:=r1 y (by simp);have hm:∀z∈(zU y).map (fun (n:Nat)=>(n:Int)),z=y.fr:=fun z hz=>by
      unfold zU at hz;split at hz
      ·cases hz
      ·simp at hz;omega
    have hr:∀z∈(r.flatMap zU).map (fun (n:Nat)=>(n:Int)),y.fr<z:=fun z hz=>by
      obtain⟨n,hn,rfl⟩:=bX.1 hz;obtain⟨q,hq,hn⟩:=dG.1 hn;have h1:=r2.1 q hq;have h2:=r1 q (bG _ hq);unfold zU at hn;split at hn
      ·cases hn
      ·simp at hn;omega
    refine⟨?_,fun z hz=>?_⟩
    ·rw[dx];refine⟨?_,i1,fun a ha b hb=>?_⟩
     ·unfold zU;split<;>simp
     ·rw[hm a ha];exact hr b hb
    ·rcases aZ.1 hz with hz|hz
     ·rw[hm z hz];exact hy
     ·exact i2 z hz
theorem yd:∀(l:List Nat) (b n:Nat),l.Pairwise (· < ·)→(∀x∈l,b≤x∧x<n)→b≤n→l.length+b≤n
  | [],b,n,_,_,h=>by simpa using h
  | a::r,b,n,hp,hx,h=>by
    rw[cP] at hp;have h1:=hx a (by simp);have h2:=yd r (a+1) n hp.2 (fun x hr=>⟨hp.1 x hr,(hx x (bG _ hr)).2⟩) (by omega);rw[aP];omega
theorem pR (l:List UInt8) (k:Int) (hl:l.length≤900):uN l k:=by
  obtain⟨c1,c2,c3⟩:=Hf l;have hb:KS (jy l k) (l.length:Int):=by
    unfold jy mD
    repeat' split
    ·exact tm _ l
    ·exact tm _ l
    ·exact tm _ l
    ·exact tm _ l
    ·exact LG l
    ·exact⟨c2,fun x hx=>by
       obtain⟨n,hn,rfl⟩:=bX.1 hx
       have:=c3 n hn
       omega⟩
    ·exact⟨.nil,fun x hx=>by cases hx⟩
  refine⟨c1,hb,?_,hl⟩;have h1:(mD l k).Pairwise (· < ·):=by
    have:=hb.rise
    unfold jy at this;rw[List.pairwise_map] at this;exact this.imp fun h=>by omega
  have h2:∀x∈mD l k,x<l.length:=fun x hx=>by
    have:=hb.rng (x:Int) (bX.2 ⟨x,hx,rfl⟩)
    omega
  have h3:=yd _ 0 _ h1 (fun x hx=>⟨bv _,h2 x hx⟩) (bv _);omega
end
section
open Go.RowKit
attribute [local go_sem] Oper.semAt_some
def wL (F:List Lf) (L:List Nd):Bool:=decide (F.length≤900)&&decide (L.length≤90000)&&L.all (fun x=>GT x.kd==0)&&F.all (fun y=>decide (y.tx.length≤900)&&decide (0≤y.fr)&&decide (y.fr≤1000000))
theorem AN {F:List Lf} {L:List Nd} (h:wL F L=true):xA F L:=by
  unfold wL at h;simp only[aT,bW,bS,aR] at h;obtain⟨⟨⟨h1,h2⟩,h3⟩,h4⟩:=h;exact⟨h1,h2,h3,fun y hy=>⟨⟨(h4 y hy).1.2,(h4 y hy).2⟩,(h4 y hy).1.1⟩⟩
theorem Mm:wL (f9 [39,97,39]) (eP (f9 [39,97,39])).l=true:=by decide +kernel
theorem Ml:sf (Jc [39,97,39]) 0=some 2:=by decide +kernel
theorem Mj:pE (gU (jy [97,98,32,99,100] 2) (([97,98,32,99,100]:List UInt8).length:Int)) (([97,98,32,99,100]:List UInt8).length:Int) (sj (([97,98,32,99,100]:List UInt8).length:Int) 0)=3:=by decide +kernel
theorem oS (w:World) :
    jL 18 #[] w (.bool true):=by
  have h1:=Mu [39,97,39] (AN Mm) (by decide) 0 w;rw[Ml] at h1;have h2:=fun W=>rV [97,98,32,99,100] 0 2 (pR _ _ (by decide)) W
  rw[Mj] at h2;have H:=aa (ac h1 h2);clear h1 h2;go_enter Tryz.func18,Tryz.ntmps18
  go_wp2_with (first
    | (go_at_call 21;refine H.out.1.mono ?_;rintro e w1 ⟨rfl,hb⟩;simp only[Option.getD_some,Option.isSome_some];have H1:=aa hb;clear hb)
    | (go_at_call 23;refine(H.out.2 _).mono ?_;rintro e w2 ⟨rfl,hb⟩;have H2:=aa hb;clear hb))
  go_ret;exact⟨rfl,H1.out.trans (H2.out.mono H1.out.size)⟩
end
theorem yc (c:UInt8) (w:World):vZ 48 #[.int .u8 (c.toNat:Int)] w (.bool (jf c)):=by
  unfold jf;have hc:=gK c;generalize eT c=z at *;have H:=aa hc;clear hc
  cases hz:(z==5);all_goals (
    go_enter Tryz.func48,Tryz.ntmps48;go_wp2_with (go_at_call 85;refine(H.out _).mono ?_;rintro e w' ⟨rfl,rfl⟩);go_ret;exact⟨rfl,rfl⟩)
theorem ye (c:UInt8) (w:World):vZ 49 #[.int .u8 (c.toNat:Int)] w (.bool (jt c)):=by
  unfold jt;have hc:=gK c;generalize eT c=z at *;have H:=aa hc;clear hc
  cases hz:(z==1);all_goals (
    go_enter Tryz.func49,Tryz.ntmps49;go_wp2_with (go_at_call 85;refine(H.out _).mono ?_;rintro e w' ⟨rfl,rfl⟩);go_ret;exact⟨rfl,rfl⟩)
theorem K8 (L:List Nd) (i c:Nat) (A:Option Addr) (x:Nd) (w:World) (hL:L.length≤100000) (hx:L[i]? = some x) (hup:x.up<(L.length:Int)) (hr:Rd w w.heap.size 4 (.slice A L.length c) L.length (gQ L)) :
    NB 86 #[.slice A L.length c,.int .i64 (i:Int)] w (.bool (lE L i)):=by
  have hil:=(ay.1 hx).1;have u1:(0:Int)≤(i:Int):=by omega
  have u2:(i:Int)<(L.length:Int):=by omega
  obtain⟨T,hT⟩:∃T,T=lE L i:=⟨_,rfl⟩;rw[←hT];have hT2:T=(x.kd==3&&decide (1≤x.up)&&decide (x.up<(L.length:Int))&&zY L x):=by rw[hT];unfold lE;rw[hx]
  obtain⟨g,o,rfl,_,hc⟩:=iK jk hr hx rfl;have y0:w.cell? ⟨g,o+i*4,none⟩=some (.int .i64 (x.kd:Int)):=hc 0 _ rfl;have y3:w.cell? ⟨g,o+i*4+3,none⟩=some (.int .i64 x.up):=hc 3 _ rfl;have HT:=aa hT2;clear hT hT2;by_cases h3:x.kd=3
  ·have t3:((x.kd:Int)!=3)=false:=by simp;omega
   by_cases h1:x.up<1
   ·have t1:decide (x.up<1)=true:=by simpa using h1
    have e:T=false:=by
      rw[HT.out,show decide (1≤x.up)=false by simp;omega,Bool.and_false];rfl
    subst e;clear hc hx hr;go_enter Tryz.func86,Tryz.ntmps86;go_wp2_with fail;try go_quiet (fail)
    try go_wp2_with fail
    go_ret;first|exact⟨rfl,_,rfl⟩|exact⟨rfl,0,rfl⟩
   ·have t1:decide (x.up<1)=false:=by simpa using h1
    obtain⟨u,hu⟩:∃u:Nat,x.up=(u:Int):=⟨x.up.toNat,by omega⟩;obtain⟨y,hy⟩:∃y,L[u]? = some y:=⟨_,ax (by omega)⟩;have v1:(0:Int)≤(u:Int):=by omega
    have v2:(u:Int)<(L.length:Int):=by omega
    obtain⟨g',o',he,_,hc2⟩:=iK jk hr hy rfl;obtain⟨rfl,rfl⟩:g=g'∧o=o':=by simpa using he
    have z0:w.cell? ⟨g,o+u*4,none⟩=some (.int .i64 (y.kd:Int)):=hc2 0 _ rfl;have z3:w.cell? ⟨g,o+u*4+3,none⟩=some (.int .i64 y.up):=hc2 3 _ rfl;have e:T=(y.kd==2&&y.up==0):=by
      rw[HT.out,h3,show decide (1≤x.up)=true by simp;omega,show decide (x.up<(L.length:Int))=true by simpa using hup];unfold zY;rw[hu,Int.toNat_natCast,hy];rfl
    have HE:=aa e;rw[hu] at y3 t1;clear hc hc2 hx hr hy he hup h1 hu e;have k2:((y.kd:Int)==2)=(y.kd==2):=by
      cases h:(y.kd==2)
      ·have:=az.1 h;rw[az];omega
      ·have:=eq_of_beq h;rw[aR];omega
    generalize (y.kd==2)=b2 at k2 HE
    cases b2
    case' true=>cases k0:(y.up==0)
    all_goals (
      go_enter Tryz.func86,Tryz.ntmps86;go_wp2_with fail;try go_quiet (fail)
      try go_wp2_with fail
      try go_quiet (fail)
      try go_wp2_with fail
      go_ret;rw[HE.out];first|exact⟨rfl,_,rfl⟩|exact⟨by rw[k0];rfl,_,rfl⟩|exact⟨rfl,0,rfl⟩|exact⟨by rw[k0];rfl,0,rfl⟩)
  ·have t3:((x.kd:Int)!=3)=true:=by simp;omega
   have e:T=false:=by
     rw[HT.out,show (x.kd==3)=false from az.2 h3];rfl
   subst e;clear hc hx hr;go_enter Tryz.func86,Tryz.ntmps86;go_wp2_with fail;try go_quiet (fail)
   try go_wp2_with fail
   go_ret;first|exact⟨rfl,_,rfl⟩|exact⟨rfl,0,rfl⟩
theorem MK (L:List Nd) (j c:Nat) (A:Option Addr) (w:World) (hL:L.length≤100000) (hup:∀(i:Nat) (x:Nd),L[i]? = some x→x.up<(L.length:Int)) (hr:Rd w w.heap.size 4 (.slice A L.length c) L.length (gQ L)) :
    Calls Tryz.prog 50 #[.slice A L.length c,.int .i64 (j:Int)] w fun e w'=>∃z:Int,e=.returned (.int .i64 z)∧((z = -1∧∀(i:Nat) (x:Nd),L[i]? = some x→lE L i=true→x.fr≠j)∨(0≤z∧∃(i:Nat) (x:Nd),L[i]? = some x∧lE L i=true∧x.fr=j))∧Below w.heap.size w w':=by
  have H:=aa (ac hr hup);clear hr hup;go_enter Tryz.func50,Tryz.ntmps50;go_wp2_with fail;go_loopw [5] (fun i wr=>∃k:Nat,k≤L.length∧i=.int .i64 k∧(∀(i:Nat) (x:Nd),i<k→L[i]? = some x→lE L i=true→x.fr≠j)∧Below w.heap.size w wr) (fun i _=>L.length-(intOf i).toNat)
  case atStart=>exact⟨0,bv _,rfl,fun i x h=>by omega,aC _ _⟩
  case round=>
    obtain⟨k,hk,rfl,hno,hb⟩:=hrel;by_cases hlt:k<L.length
    ·have u1:(k:Int)<(L.length:Int):=by omega
     have u2:(0:Int)≤(k:Int):=by omega
     obtain⟨x,hx⟩:∃x,L[k]? = some x:=⟨_,ax hlt⟩;have hrr:=(H.out.1.keep hb (au _)).mono hb.size;have ct:=K8 L k c A x wr hL hx (H.out.2 k x hx) hrr;obtain⟨g,o,rfl,_,hc⟩:=iK jk hrr hx rfl;have y1:wr.cell? ⟨g,o+k*4+1,none⟩=some (.int .i64 (x.fr:Int)):=hc 1 _ rfl;have y2:wr.cell? ⟨g,o+k*4+2,none⟩=some (.int .i64 (x.tt:Int)):=hc 2 _ rfl;obtain⟨T,hT⟩:∃T,T=lE L k:=⟨_,rfl⟩;rw[←hT] at ct;have HK:=aa (ac ct (ac hno (ac hb (ac hx hT))));clear ct hno hb hx hT hrr hc
     cases T
     ·go_wp2_with (first
        | (go_at_call 86;with_reducible refine(HK.out.1).mono ?_
           rintro e w2 ⟨rfl,n,rfl⟩)
        | fail)
      refine⟨⟨k+1,by omega,by go_num,fun i z h1 h2 h3=>?_,by first|exact HK.out.2.2.1|exact dN HK.out.2.2.1 _⟩,by simp[intOf];omega⟩;rcases bZ i k with h|h
      ·exact HK.out.2.1 i z h h2 h3
      ·obtain rfl:i=k:=by omega
       rw[←HK.out.2.2.2.2] at h3
       cases h3
     ·by_cases hf:x.fr=j
      ·have t1:((x.fr:Int)==(j:Int))=true:=by rw[aR];omega
       have HF:=aa hf;clear hf
       go_wp2_with (first
         | (go_at_call 86;with_reducible refine(HK.out.1).mono ?_
            rintro e w2 ⟨rfl,n,rfl⟩)
         | fail)
       try go_quiet (fail)
       try go_wp2_with fail
       go_ret;exact⟨_,rfl,.inr ⟨by omega,k,x,HK.out.2.2.2.1,HK.out.2.2.2.2.symm,HF.out⟩,by first|exact HK.out.2.2.1|exact dN HK.out.2.2.1 _|exact dN (dN HK.out.2.2.1 _) _⟩
      ·have t1:((x.fr:Int)==(j:Int))=false:=by rw[az];omega
       have HF:=aa hf;clear hf
       go_wp2_with (first
         | (go_at_call 86;with_reducible refine(HK.out.1).mono ?_
            rintro e w2 ⟨rfl,n,rfl⟩)
         | fail)
       try go_quiet (fail)
       try go_wp2_with fail
       refine⟨⟨k+1,by omega,by go_num,fun i z h1 h2 h3=>?_,by first|exact HK.out.2.2.1|exact dN HK.out.2.2.1 _|exact dN (dN HK.out.2.2.1 _) _⟩,by simp[intOf];omega⟩;rcases bZ i k with h|h
       ·exact HK.out.2.1 i z h h2 h3
       ·obtain rfl:i=k:=by omega
        obtain rfl:x=z:=Option.some.inj (HK.out.2.2.2.1.symm.trans h2);exact HF.out
    ·obtain rfl:k=L.length:=by omega
     have HN:=aa (ac hno hb);clear hno hb;go_wp2_with fail;go_ret;exact⟨-1,rfl,.inl ⟨rfl,fun i x h=>HN.out.1 i x (ay.1 h).1 h⟩,HN.out.2⟩
def vi (l:List UInt8) (p:Nat) (k:Int):Bool:=
  if k=1 then true else if k=2 then jf (l.getD p 0) && !jf (l.getD (p-1) 0) else if k=3 then !jt (l.getD p 0)&&jt (l.getD (p-1) 0) else if k=6 then l.getD (p-1) 0==10 else false
theorem CZ (l:List UInt8) (p:Nat) (k:Int) (w:World) (hl:l.length≤900) (h:p=0∨p=l.length) :
    jL 20 #[.string ⟨l.toArray⟩,.int .i64 (p:Int),.int .i64 k] w (.bool true):=by
  cases h0:((p:Int)==0)
  case' false=>
    have h1:((p:Int)==(l.length:Int))=true:=by
      have:=az.1 h0
      rw[aR];omega
  all_goals (
    go_enter Tryz.func20,Tryz.ntmps20;go_wp2_with fail;go_ret;exact⟨rfl,aC _ _⟩)
theorem Aq (l:List UInt8) (p:Nat) (k:Int) (w:World) (hl:l.length≤900) (h0:0<p) (h1:p<l.length) (h4:((k==4)=false)) (h5:(k==5)=false) :
    jL 20 #[.string ⟨l.toArray⟩,.int .i64 (p:Int),.int .i64 k] w (.bool (vi l p k)):=by
  have t0:((p:Int)==0)=false:=by rw[az];omega
  have t1:((p:Int)==(l.length:Int))=false:=by rw[az];omega
  have u0:(0:Int)≤(p:Int):=by omega
  have u1:(p:Int)<(l.length:Int):=by omega
  have w1:IntKind.i64.wrap ((p:Int)-1)=(p:Int)-1:=aS _ (by omega);have w2:(0:Int)≤(p:Int)-1:=by omega
  have w3:(p:Int)-1<(l.length:Int):=by omega
  have w4:((p:Int)-1).toNat=p-1:=by omega
  obtain⟨d,hd⟩:∃d,l[p]? = some d:=⟨_,ax h1⟩;obtain⟨d',hd'⟩:∃d',l[p-1]? = some d':=⟨_,ax (by omega)⟩;have g1:l.getD p 0=d:=by rw[aE,hd];rfl
  have g2:l.getD (p-1) 0=d':=by rw[aE,hd'];rfl
  unfold vi;rw[g1,g2];obtain⟨a1,a2⟩:=ay.1 hd;have hA:∃h:p<(ByteArray.mk l.toArray).size,(ByteArray.mk l.toArray)[p]'h=d:=⟨a1,a2⟩;obtain⟨hL1,hL2⟩:=hA;obtain⟨b1,b2⟩:=ay.1 hd';have hB:∃h:p-1<(ByteArray.mk l.toArray).size,(ByteArray.mk l.toArray)[p-1]'h=d':=⟨b1,b2⟩;obtain⟨hL3,hL4⟩:=hB;have c1:=yc d;have c2:=yc d';have c3:=ye d;have c4:=ye d';have k10:((d'.toNat:Int)==10)=(d'==10):=i7 d' 10;have n4:(k != 4)=true:=by simpa using h4
  have n5:(k != 5)=true:=by simpa using h5
  generalize jf d=s1 at *;generalize jf d'=s2 at *;generalize jt d=s3 at *;generalize jt d'=s4 at *;have HC:=aa (ac c1 (ac c2 (ac c3 c4)));clear c1 c2 c3 c4 hd hd' g1 g2 a2 b2;have key:k=1∨k=2∨k=3∨k=6∨((k==1)=false∧(k==2)=false∧(k==3)=false∧(k==6)=false∧¬k=1∧¬k=2∧¬k=3∧¬k=6):=by
    by_cases x1:k=1
    ·exact .inl x1
    by_cases x2:k=2
    ·exact .inr (.inl x2)
    by_cases x3:k=3
    ·exact .inr (.inr (.inl x3))
    by_cases x6:k=6
    ·exact .inr (.inr (.inr (.inl x6)))
    ·exact .inr (.inr (.inr (.inr ⟨az.2 x1,az.2 x2,az.2 x3,az.2 x6,x1,x2,x3,x6⟩)))
  rcases key with rfl|rfl|rfl|rfl|⟨e1,e2,e3,e6,x1,x2,x3,x6⟩
  ·go_enter Tryz.func20,Tryz.ntmps20;go_wp2_with fail;go_ret;exact⟨rfl,aC _ _⟩
  ·cases s1;all_goals (
     go_enter Tryz.func20,Tryz.ntmps20
     go_wp2_with (first
       | (go_at_call 48;with_reducible refine(HC.out.1 _).mono ?_;rintro e w' ⟨rfl,rfl⟩)
       | (go_at_call 48;with_reducible refine(HC.out.2.1 _).mono ?_;rintro e w' ⟨rfl,rfl⟩)
       | fail)
     go_ret;exact⟨rfl,aC _ _⟩)
  ·cases s3;all_goals (
     go_enter Tryz.func20,Tryz.ntmps20
     go_wp2_with (first
       | (go_at_call 49;with_reducible refine(HC.out.2.2.1 _).mono ?_;rintro e w' ⟨rfl,rfl⟩)
       | (go_at_call 49;with_reducible refine(HC.out.2.2.2 _).mono ?_;rintro e w' ⟨rfl,rfl⟩)
       | fail)
     go_ret;exact⟨rfl,aC _ _⟩)
  ·go_enter Tryz.func20,Tryz.ntmps20;go_wp2_with fail;go_ret;first|exact⟨rfl,aC _ _⟩|exact⟨by rw[k10];rfl,aC _ _⟩
  ·rw[aB x1,aB x2,aB x3,aB x6];clear x1 x2 x3 x6;go_enter Tryz.func20,Tryz.ntmps20;go_wp2_with fail;go_ret;exact⟨rfl,aC _ _⟩
theorem Ip (F:List Lf):∀(i:Nat) (y:Nd),(eP F).l[i]? = some y→y.up<((eP F).l.length:Int):=by
  intro i y hy;have hil:=(ay.1 hy).1;obtain⟨hrow,r,hr⟩:=vA F;by_cases h0:i=0
  ·subst h0;rw[hr] at hy;obtain rfl:(⟨1,0,F.length, -1⟩:Nd)=y:=by simpa using hy
   show (-1:Int)<_;omega
  ·obtain⟨u,m,h1,h2,_⟩:=(hrow i y hy).u (by omega);omega
def KR (F:List Lf) (L:List Nd) (p:Nat) (k:Int) (b:Bool):Prop:=
  ((∀(j:Nat) (x:Lf),F[j]? = some x→x.fr≠(p:Int))∧b=false)∨∃(j:Nat) (x:Lf),F[j]? = some x∧x.fr=(p:Int)∧((k=4∧b=(x.kd != 2))∨(k=5∧(b=true↔∃(i:Nat) (y:Nd),L[i]? = some y∧lE L i=true∧y.fr=j)))
theorem Ap (l:List UInt8) (p:Nat) (k:Int) (w:World) (hl:l.length≤900) (h0:0<p) (h1:p<l.length) (hk:k=4∨k=5) :
    Calls Tryz.prog 20 #[.string ⟨l.toArray⟩,.int .i64 (p:Int),.int .i64 k] w fun e w'=>∃b,e=.returned (.bool b)∧KR (f9 l) (eP (f9 l)).l p k b∧Below w.heap.size w w':=by
  have t0:((p:Int)==0)=false:=by rw[az];omega
  have t1:((p:Int)==(l.length:Int))=false:=by rw[az];omega
  have hF:=qD l hl;have hlen:=Di (f9 l);have hF9:=hF.n;have hup:=Ip (f9 l);have c1:=fun W=>C3 l W hl
  rw[show Ju l=f9 l from rfl] at c1;generalize f9 l=F at c1 hF hlen hF9 hup;have c2:=fun fv W (h:Rd W W.heap.size 4 fv F.length (iF F))=>EJ F fv W hF h
  generalize (eP F).l=L at c2 hlen hup;have c3:=fun (j c:Nat) (A:Option Addr) (W:World) (h:Rd W W.heap.size 4 (.slice A L.length c) L.length (gQ L))=>MK L j c A W (by omega) hup h
  have HC:=aa (ac c1 (ac c2 c3));clear c1 c2 c3 hF hup hlen;rcases hk with rfl|rfl
  all_goals (
    go_enter Tryz.func20,Tryz.ntmps20
    go_wp2_with (first
      | (go_at_call 12;with_reducible refine(HC.out.1 _).mono ?_
         rintro e w2 ⟨v,rfl,ho,hb⟩;obtain⟨A,n,c,rfl⟩:=dR ho;obtain rfl:=ei ho;have H2:=aa (ac (Rd.of_own ho) hb);clear ho hb)
      | (go_at_call 14;with_reducible refine(HC.out.2.1 _ _ H2.out.1).mono ?_
         rintro e w4 ⟨v,rfl,ho,hb⟩;obtain⟨A4,n4,c4,rfl⟩:=dR ho;have hn4:=ei ho;subst hn4;have H4:=aa (ac (H2.out.1.next hb) (ac (Rd.of_own ho) (H2.out.2.trans (hb.mono H2.out.2.size))));clear ho hb)
      | fail)
    go_loopw [9] (fun i wr=>∃j:Nat,j≤F.length∧i=.int .i64 j∧(∀(i:Nat) (x:Lf),i<j→F[i]? = some x→x.fr≠(p:Int))∧Below w4.heap.size w4 wr) (fun i _=>F.length-(intOf i).toNat)
    case atStart=>exact⟨0,bv _,rfl,fun i x h=>by omega,aC _ _⟩
    case round=>
      obtain⟨j,hj,rfl,hno,hb⟩:=hrel;by_cases hlt:j<F.length
      ·have u1:(j:Int)<(F.length:Int):=by omega
       have u2:(0:Int)≤(j:Int):=by omega
       obtain⟨x,hx⟩:∃x,F[j]? = some x:=⟨_,ax hlt⟩;obtain⟨g,o,rfl,_,hc⟩:=iK (lay:=LJ) (fun _=>rfl) (H4.out.1.keep hb (au _)) hx rfl;have y0:wr.cell? ⟨g,o+j*4,none⟩=some (.int .i64 x.kd):=hc 0 _ rfl;have y2:wr.cell? ⟨g,o+j*4+2,none⟩=some (.int .i64 x.fr):=hc 2 _ rfl;have HN:=aa (ac hno (ac hb hx));clear hno hb hx hc
       cases hfr:(x.fr != (p:Int))
       ·have e:x.fr=(p:Int):=by simpa using hfr
        have HE:=aa e;clear e
        go_wp2_with (first
          | (go_at_call 50;with_reducible refine(HC.out.2.2 _ _ _ _ (H4.out.2.1.next HN.out.2.1)).mono ?_
             rintro e w6 ⟨z,rfl,hz,hb⟩;have HZ:=aa (ac hz hb);clear hz hb)
          | fail)
        go_ret
        first
          | exact⟨_,rfl,.inr ⟨j,x,HN.out.2.2,HE.out,.inl ⟨rfl,rfl⟩⟩,H4.out.2.2.trans (HN.out.2.1.mono H4.out.2.2.size)⟩
          | (refine⟨_,rfl,.inr ⟨j,x,HN.out.2.2,HE.out,.inr ⟨rfl,?_⟩⟩,H4.out.2.2.trans ((HN.out.2.1.trans (HZ.out.2.mono HN.out.2.1.size)).mono H4.out.2.2.size)⟩;rcases HZ.out.1 with ⟨rfl,h⟩|⟨h1,h2⟩
             ·refine⟨fun e=>absurd e (by decide),fun⟨i,y,a,b,c⟩=>absurd c (h i y a b)⟩
             ·exact⟨fun _=>h2,fun _=>by simpa using h1⟩)
       ·have e:x.fr≠(p:Int):=by simpa using hfr
        have HE:=aa e;clear e;go_wp2_with fail;refine⟨⟨j+1,by omega,by go_num,fun i y a b=>?_,HN.out.2.1⟩,by simp[intOf];omega⟩;rcases bZ i j with h|h
        ·exact HN.out.1 i y h b
        ·obtain rfl:i=j:=by omega
         obtain rfl:x=y:=Option.some.inj (HN.out.2.2.symm.trans b);exact HE.out
      ·obtain rfl:j=F.length:=by omega
       have HN:=aa (ac hno hb);clear hno hb;go_wp2_with fail;go_ret;exact⟨false,rfl,.inl ⟨fun i y b=>HN.out.1 i y (ay.1 b).1 b,rfl⟩,H4.out.2.2.trans (HN.out.2.mono H4.out.2.2.size)⟩)
theorem mZ:∀(l:List Int) (x:Int),x∈l→x∈kC l
  | [],x,h=>by cases h
  | a::l,x,h=>by
    unfold kC
    cases hc:kC l with
    | nil=>
      simp only;rcases br.1 h with rfl|h
      ·exact cE.2 rfl
      ·have:=mZ l x h
       rw[hc] at this
       cases this
    | cons b s=>
      simp only;by_cases e:a=b
      ·rw[aD e];rcases br.1 h with rfl|h
       ·rw[e];exact db
       ·have:=mZ l x h
        rwa [hc] at this
      ·rw[aB e];rcases br.1 h with rfl|h
       ·exact db
       ·have:=mZ l x h
        rw[hc] at this;exact bG _ this
theorem oI (B:List Int) (n x:Int):x∈gU B n↔x=0∨x∈B∨x=n:=by
  unfold gU;constructor
  ·intro h
   have:=uF _ x h
   simpa using this
  ·intro h;exact mZ _ x (by simpa using h)
theorem C4 {S:List Int} (h:S.Pairwise (· < ·)) {m:Nat} {a:Int} (hl:∀i,i<m→∀x,S[i]? = some x→x<a) (hr:∀i x,m≤i→S[i]? = some x→a≤x) (ha:a∈S):S[m]? = some a:=by
  obtain⟨i,hi⟩:=dq.1 ha;rcases Nat.lt_trichotomy i m with h1|h1|h1
  ·have:=hl i h1 a hi;omega
  ·rw[←h1];exact hi
  ·obtain⟨hi1,hi2⟩:=ay.1 hi;have hm:m<S.length:=by omega
   have h3:=hr m S[m] (au _) (ax hm);have h4:=bN.1 h m i hm hi1 h1;omega
theorem qC (bg:UInt8→UInt8→Bool) (l:List UInt8) (p n:Nat):p∈mF bg l n↔p<n∧1≤p∧bg (l.getD (p-1) 0) (l.getD p 0)=true:=by
  unfold mF DO;rw[List.mem_filter,cI,aT,bW]
theorem yG {F:List Lf} (h:F.Pairwise fun a b=>a.fr<b.fr) {i j:Nat} {x y:Lf} (hx:F[i]? = some x) (hy:F[j]? = some y) (e:x.fr=y.fr):i=j:=by
  obtain⟨a1,a2⟩:=ay.1 hx;obtain⟨b1,b2⟩:=ay.1 hy;rcases Nat.lt_trichotomy i j with h1|h1|h1
  ·have:=bN.1 h i j a1 b1 h1
   rw[a2,b2] at this;omega
  ·exact h1
  ·have:=bN.1 h j i b1 a1 h1
   rw[a2,b2] at this;omega
theorem Eo (l:List UInt8) (p:Nat) (k:Int) (h0:0<p) (h1:p<l.length) (h4:¬k=4) (h5:¬k=5):vi l p k=true↔p∈mD l k:=by
  unfold vi mD;by_cases e1:k=1
  ·rw[aD e1,aD e1,qC];exact⟨fun _=>⟨h1,h0,rfl⟩,fun _=>rfl⟩
  rw[aB e1,aB e1];by_cases e2:k=2
  ·rw[aD e2,aD e2,qC,Bool.and_comm];exact⟨fun h=>⟨h1,h0,h⟩,fun h=>h.2.2⟩
  rw[aB e2,aB e2];by_cases e3:k=3
  ·rw[aD e3,aD e3,qC,Bool.and_comm];exact⟨fun h=>⟨h1,h0,h⟩,fun h=>h.2.2⟩
  rw[aB e3,aB e3];by_cases e6:k=6
  ·rw[aD e6,aD e6,qC];exact⟨fun h=>⟨h1,h0,h⟩,fun h=>h.2.2⟩
  rw[aB e6,aB e6,aB h4,aB h5];exact⟨fun h=>(by cases h),fun h=>(by cases h)⟩
theorem Cm {x:Lf} {p:Nat} (hx:0≤x.fr):p∈zU x↔x.kd≠2∧x.fr=(p:Int):=by
  unfold zU;by_cases h:x.kd=2
  ·rw[aD h];exact⟨fun h=>(by cases h),fun h'=>absurd h h'.1⟩
  ·rw[aB h,cE];constructor
   ·intro e;exact⟨h,by omega⟩
   ·rintro ⟨_,e⟩;omega
theorem Cl (l:List UInt8) (p:Nat):p∈Ik l↔∃x∈f9 l,x.kd≠2∧x.fr=(p:Int):=by
  unfold Ik;rw[dG];constructor
  ·rintro ⟨x,hx,h⟩;exact⟨x,hx,(Cm ((li l).1 x hx).1).1 h⟩
  ·rintro ⟨x,hx,h⟩;exact⟨x,hx,(Cm ((li l).1 x hx).1).2 h⟩
theorem zK (l:List UInt8) (p:Nat):p∈uG l↔∃(i:Nat) (y:Nd) (z:Lf),(eP (f9 l)).l[i]? = some y∧lE (eP (f9 l)).l i=true∧(f9 l)[y.fr]? = some z∧z.fr=(p:Int):=by
  have hok:=(Hf l).1;unfold uG;rw[bX];constructor
  ·rintro ⟨i,hi,e⟩;obtain⟨y,z,hy,hz⟩:=hok i hi;have h0:=((li l).1 z (aO hz)).1;have ht:=(List.mem_filter.1 hi).2;unfold mz at e;rw[hy] at e;simp only[hz] at e;exact⟨i,y,z,hy,ht,hz,by omega⟩
  ·rintro ⟨i,y,z,hy,ht,hz,e⟩;refine⟨i,List.mem_filter.2 ⟨cI.2 (ay.1 hy).1,ht⟩,?_⟩;unfold mz;rw[hy];simp only[hz];omega
theorem En (l:List UInt8) (p:Nat) (k:Int) (b:Bool) (hk:k=4∨k=5) (h:KR (f9 l) (eP (f9 l)).l p k b):b=true↔p∈mD l k:=by
  have e4:mD l 4=Ik l:=rfl;have e5:mD l 5=uG l:=rfl;have hr:=(li l).2;rcases h with ⟨hno,rfl⟩|⟨j,x,hx,hxp,h⟩
  ·refine⟨fun h=>(by cases h),fun h=>?_⟩;rcases hk with rfl|rfl
   ·rw[e4,Cl] at h;obtain⟨x,hx,_,e⟩:=h;obtain⟨j,hj⟩:=dq.1 hx;exact absurd e (hno j x hj)
   ·rw[e5,zK] at h;obtain⟨i,y,z,_,_,hz,e⟩:=h;exact absurd e (hno _ z hz)
  ·rcases h with ⟨rfl,rfl⟩|⟨rfl,h⟩
   ·rw[e4,Cl];constructor
    ·intro h;exact⟨x,aO hx,by simpa using h,hxp⟩
    ·rintro ⟨y,hy,h2,e⟩;obtain⟨i,hi⟩:=dq.1 hy;obtain rfl:=yG hr hi hx (e.trans hxp.symm);obtain rfl:=Option.some.inj (hi.symm.trans hx);simpa using h2
   ·rw[e5,zK,h];constructor
    ·rintro ⟨i,y,hy,ht,rfl⟩;exact⟨i,y,x,hy,ht,hx,hxp⟩
    ·rintro ⟨i,y,z,hy,ht,hz,e⟩;exact⟨i,y,hy,ht,yG hr hz hx (e.trans hxp.symm)⟩
theorem Ka (l:List UInt8) (k:Int) (p:Nat):(p:Int)∈jy l k↔p∈mD l k:=by
  unfold jy;rw[bX];constructor
  ·rintro ⟨q,hq,e⟩;obtain rfl:q=p:=by omega
   exact hq
  ·intro h;exact⟨p,h,rfl⟩
abbrev xC (l:List UInt8) (k:Int):List Int:=gU (jy l k) (l.length:Int)
theorem sN (l:List UInt8) (p:Nat) (k:Int) (w:World) (hl:l.length≤900) (hp:p≤l.length) :
    jL 20 #[.string ⟨l.toArray⟩,.int .i64 (p:Int),.int .i64 k] w (.bool (decide ((p:Int)∈xC l k))):=by
  have hm:=oI (jy l k) (l.length:Int) (p:Int);rw[Ka] at hm;by_cases he:p=0∨p=l.length
  ·have e:decide ((p:Int)∈xC l k)=true:=aG (hm.2 (by rcases he with h|h<;>simp[h]));rw[e];exact CZ l p k w hl he
  ·have h0:0<p:=by omega
   have h1:p<l.length:=by omega
   have hm2:(p:Int)∈xC l k↔p∈mD l k:=hm.trans ⟨fun h=>by rcases h with h|h|h;omega;exact h;omega,fun h=>.inr (.inl h)⟩;by_cases h4:k=4∨k=5
   ·refine(Ap l p k w hl h0 h1 h4).mono ?_;rintro e w' ⟨b,rfl,hb,hw⟩
    have:=(En l p k b h4 hb).trans hm2.symm
    refine⟨?_,hw⟩
    cases b
    ·rw[aL fun h=>by have:=this.2 h;cases this]
    ·rw[aG (this.1 rfl)]
   ·have a4:¬k=4:=fun h=>h4 (.inl h)
    have a5:¬k=5:=fun h=>h4 (.inr h)
    have:=(Eo l p k h0 h1 a4 a5).trans hm2.symm
    have e:decide ((p:Int)∈xC l k)=vi l p k:=by
      cases hb:vi l p k
      ·exact aL fun h=>by have:=this.2 h;rw[hb] at this;cases this
      ·exact aG (this.1 hb)
    rw[e];exact Aq l p k w hl h0 h1 (az.2 a4) (az.2 a5)
theorem wu (l:List UInt8) (k:Int) (hl:l.length≤900):(xC l k).Pairwise (· < ·)∧(∀x∈xC l k,0≤x∧x≤(l.length:Int))∧(0:Int)∈xC l k∧(l.length:Int)∈xC l k:=by
  have hok:=pR l k hl;refine⟨(Em hok.b (by omega)).1,fun x hx=>?_,(oI _ _ _).2 (.inl rfl),(oI _ _ _).2 (.inr (.inr rfl))⟩;rcases (oI _ _ _).1 hx with rfl|h|rfl
  ·omega
  ·have:=hok.b.rng x h;omega
  ·omega
end Go.Proofs.YtcagfamdoaoimaaGreatDoor
