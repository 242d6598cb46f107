/- Motion: bounds: the places at which something begins, by the bytes ahead and behind. -/
import Derived.Test.YtgdifhhioahakaaGreatDoorIt29
import Derived.Test.YtgdifhhioahakaaGreatDoorCls
namespace Go.Proofs.YtgdifhhioahakaaGreatDoor
open Go.RowKit
set_option linter.unusedVariables false
set_option linter.unusedSimpArgs false
set_option maxRecDepth 100000
attribute [local go_sem] Oper.semAt_some
def solidB (c:UInt8):Bool:=clsOf c==5||clsOf c==6
def emptyB (c:UInt8):Bool:=clsOf c==1||clsOf c==2
theorem solid_m (c:UInt8) (w:World):Calls Tryz.prog 42 #[.int .u8 (c.toNat:Int)] w fun e w'=>e=.returned (.bool (solidB c))∧w'=w:=by
  unfold solidB
  have hc:=of_c c
  generalize clsOf c=z at *
  have H:=Lib.hid hc
  clear hc
  cases hz:(z==5)
  all_goals (
    go_enter Tryz.func42,Tryz.ntmps42
    go_wp2_with (go_at_call 61;refine(H.out _).mono ?_;rintro e w' ⟨rfl,rfl⟩)
    go_ret
    exact⟨rfl,rfl⟩)
theorem empty_m (c:UInt8) (w:World):Calls Tryz.prog 44 #[.int .u8 (c.toNat:Int)] w fun e w'=>e=.returned (.bool (emptyB c))∧w'=w:=by
  unfold emptyB
  have hc:=of_c c
  generalize clsOf c=z at *
  have H:=Lib.hid hc
  clear hc
  cases hz:(z==1)
  all_goals (
    go_enter Tryz.func44,Tryz.ntmps44
    go_wp2_with (go_at_call 61;refine(H.out _).mono ?_;rintro e w' ⟨rfl,rfl⟩)
    go_ret
    exact⟨rfl,rfl⟩)
def BegC (bf:Nat) (bg:UInt8→UInt8→Bool):Prop:=(∀args w,(callFunc bf args).run Tryz.prog w=.ok (.enter bf args) w)∧∀(a b:UInt8) (W:World),Calls Tryz.prog bf #[.int .u8 (a.toNat:Int),.int .u8 (b.toNat:Int)] W fun e w'=>e=.returned (.bool (bg a b))∧w'=W
theorem beg1:BegC 40 (fun _ _=>true):=⟨enters_of Tryz.func40 (by kernel_rfl) rfl,fun a b W=>by
  go_enter Tryz.func40,Tryz.ntmps40
  go_wp2
  go_ret
  exact⟨rfl,rfl⟩⟩
theorem beg2:BegC 41 (fun a b => !solidB a&&solidB b):=⟨enters_of Tryz.func41 (by kernel_rfl) rfl,fun a b W=>by
  dsimp only
  have h1:=solid_m a
  have h2:=solid_m b
  generalize solidB a=x at *
  generalize solidB b=y at *
  have H:=Lib.hid (And.intro h1 h2)
  clear h1 h2
  cases x
  all_goals (
    go_enter Tryz.func41,Tryz.ntmps41
    go_wp2_with (go_at_call 42;(first|(with_reducible refine(H.out.1 _).mono ?_)|(with_reducible refine(H.out.2 _).mono ?_));rintro e w' ⟨rfl,rfl⟩)
    go_ret
    exact⟨rfl,rfl⟩)⟩
theorem beg3:BegC 43 (fun a b=>emptyB a && !emptyB b):=⟨enters_of Tryz.func43 (by kernel_rfl) rfl,fun a b W=>by
  dsimp only
  have h1:=empty_m a
  have h2:=empty_m b
  generalize emptyB a=x at *
  generalize emptyB b=y at *
  have H:=Lib.hid (And.intro h1 h2)
  clear h1 h2
  cases x
  all_goals (
    go_enter Tryz.func43,Tryz.ntmps43
    go_wp2_with (go_at_call 44;(first|(with_reducible refine(H.out.1 _).mono ?_)|(with_reducible refine(H.out.2 _).mono ?_));rintro e w' ⟨rfl,rfl⟩)
    go_ret
    exact⟨rfl,rfl⟩)⟩
theorem beg4:BegC 45 (fun a _=>a==10):=⟨enters_of Tryz.func45 (by kernel_rfl) rfl,fun a b W=>by
  dsimp only
  have h:=u8_beq a 10
  go_enter Tryz.func45,Tryz.ntmps45
  go_wp2
  go_ret
  exact⟨by first|rfl|(rw[←h];rfl),rfl⟩⟩
def bndB (bg:UInt8→UInt8→Bool) (l:List UInt8) (i:Nat):Bool:=decide (1≤i)&&bg (l.getD (i-1) 0) (l.getD i 0)
def bndK (bg:UInt8→UInt8→Bool) (l:List UInt8) (k:Nat):List Nat:=(List.range k).filter (bndB bg l)
theorem bndK_succ (bg:UInt8→UInt8→Bool) (l:List UInt8) (k:Nat):bndK bg l (k+1)=bndK bg l k++(if bndB bg l k=true then [k] else []):=by
  unfold bndK
  rw[List.range_succ,List.filter_append]
  congr 1
  by_cases h:bndB bg l k=true
  ·rw[if_pos h];simp[h]
  ·rw[if_neg h];simp[h]
theorem bndK_pre (bg:UInt8→UInt8→Bool) (l:List UInt8) {k n:Nat} (h:k≤n):bndK bg l k<+:bndK bg l n:=by
  induction h with
  | refl=>exact List.prefix_refl _
  | step _ ih=>exact ih.trans ⟨_,(bndK_succ bg l _).symm⟩
theorem bndK_len (bg:UInt8→UInt8→Bool) (l:List UInt8) (k:Nat):(bndK bg l k).length≤k:=by
  have:=List.length_filter_le (bndB bg l) (List.range k)
  rwa [List.length_range] at this
theorem bndK_one (bg:UInt8→UInt8→Bool) (l:List UInt8):bndK bg l 1=[]:=rfl
theorem YC.one {l':Nat} {N:List Nat} {n₀:Nat} {Xc:Nat→Prop} {J Jx:(Nat→Prop)→List Nat→World→Prop} (hY:YC l' N n₀ Xc J Jx) {X:Nat→Prop} {pre:List Nat} {x:Nat} {W1:World} (hj:J X pre W1) (hN:pre++[x]<+:N) (m:Nat) :
    YieldAt Fence.wide m Tryz.prog l' (encC x) W1 fun e W'=>∃bb:Bool,e=.returned (.bool bb)∧(bb=true→J X (pre++[x]) W')∧(bb=false→Jx X (pre++[x]) W')∧KeepX n₀ Xc W1 W'∧∀k,X k→W'.heap[k]? = W1.heap[k]? := by
  obtain⟨fn,tmps,assign,body,hy,hR⟩:=hY X pre x W1 hj hN m
  refine⟨fn,tmps,assign,body,hy,hR.mono ?_⟩
  rintro e W' (⟨rfl,h1,h2,h3⟩|⟨rfl,h1,h2,h3⟩)
  ·exact⟨true,rfl,fun _=>h1,fun h=>(by cases h),h2,h3⟩
  ·exact⟨false,rfl,fun h=>(by cases h),fun _=>h1,h2,h3⟩
set_option maxHeartbeats 8000000 in
theorem bounds_in (n l' sb fb bf n₀:Nat) (bg:UInt8→UInt8→Bool) (hbf:BegC bf bg) (Xc:Nat→Prop) (l:List UInt8) (J Jx:(Nat→Prop)→List Nat→World→Prop) (hF:Fits J) (hY:YC l' (bndK bg l l.length) n₀ Xc J Jx) (hl:l.length≤900) (W:World) (hs:Bk W sb 9 #[.string ⟨l.toArray⟩]) (hs1:sb<n₀∧¬Xc sb) (hf:Bk W fb 84 #[.func (.func bf) #[] #[]]) (hf1:fb<n₀∧¬Xc fb) (wn:n₀≤W.heap.size) (h0:J (fun _=>False) [] W) :
    CallsIn Fence.wide n Tryz.prog 60 #[.func (.yield l') #[] #[],.pointer (some ⟨sb,0,none⟩),.pointer (some ⟨fb,0,none⟩)] W fun e W'=>(∃v,e=.returned v)∧((∃xs X,xs=bndK bg l l.length∧J X xs W')∨(∃pre X,True∧Jx X pre W')):=by
  have hd0:=D24.start (Xc:=Xc) h0 (fun k hk=>hk.elim) wn
  have HK:=Lib.hid (And.intro hY (And.intro hbf (And.intro hs (And.intro hf hd0))))
  have hsl:=hs.lt
  have hfl:=hf.lt
  clear hY hbf hs hf hd0 h0
  refine callsIn_of_wp Tryz.func60 rfl trivial ?_ rfl
  simp only[Tryz.ntmps60,List.size_toArray,List.length_cons,List.length_nil,Nat.reduceAdd,Nat.reduceSub,Array.replicate_succ,Array.replicate_zero,List.push_toArray,List.append_toArray,List.nil_append,List.cons_append]
  gi_wp2_with fail
  gi_loopw [4] (fun i wr=>∃(k:Nat) (X:Nat→Prop),1≤k∧(k≤l.length∨k=1)∧i=.int .i64 k∧D24 J W wr n₀ Xc (fun _=>False) X (bndK bg l k)) (fun i _=>l.length-(intOf i).toNat)
  case atStart=>exact⟨1,_,Nat.le_refl _,.inr rfl,rfl,HK.out.2.2.2.2⟩
  case round=>
    obtain⟨k,X,hk1,hk2,rfl,hd⟩:=hrel
    have hks:Bk wr sb 9 #[.string ⟨l.toArray⟩]:=(hd.kx.same sb hs1.1 hs1.2).trans HK.out.2.2.1
    have hkf:Bk wr fb 84 #[.func (.func bf) #[] #[]]:=(hd.kx.same fb hf1.1 hf1.2).trans HK.out.2.2.2.1
    have y0:wr.cell? ⟨sb,0,none⟩=some (.string ⟨l.toArray⟩):=by rw[hks.cell];rfl
    have y1:wr.cell? ⟨fb,0,none⟩=some (.func (.func bf) #[] #[]):=by rw[hkf.cell];rfl
    by_cases hkl:k<l.length
    ·obtain⟨a,ha⟩:∃a,l[k-1]? = some a:=⟨_,List.getElem?_eq_getElem (by omega)⟩
     obtain⟨b,hb⟩:∃b,l[k]? = some b:=⟨_,List.getElem?_eq_getElem hkl⟩
     have hB:bndB bg l k=bg a b:=by unfold bndB;rw[decide_eq_true hk1,Bool.true_and,List.getD_eq_getElem?_getD,ha,List.getD_eq_getElem?_getD,hb];rfl
     have hsuc:=bndK_succ bg l k
     rw[hB] at hsuc
     obtain⟨j,rfl⟩:∃j,k=j+1:=⟨k-1,by omega⟩
     rw[Nat.add_sub_cancel] at ha
     obtain⟨p1,p2⟩:=List.getElem?_eq_some_iff.1 ha
     obtain⟨p3,p4⟩:=List.getElem?_eq_some_iff.1 hb
     have q1:∃h:j<(ByteArray.mk l.toArray).size,(ByteArray.mk l.toArray)[j]'h=a:=⟨p1,p2⟩
     have q2:∃h:j+1<(ByteArray.mk l.toArray).size,(ByteArray.mk l.toArray)[j+1]'h=b:=⟨p3,p4⟩
     obtain⟨q3,q4⟩:=q1
     obtain⟨q5,q6⟩:=q2
     have u1:(j:Int)+1<(l.length:Int):=by omega
     have u2:(0:Int)≤(j:Int):=by omega
     have u3:(j:Int)<(l.length:Int):=by omega
     have u4:(0:Int)≤(j:Int)+1:=by omega
     have v1:IntKind.i64.wrap ((j:Int)+1-1)=(j:Int):=by rw[Int.add_sub_cancel];exact IntWalk.i64_in _ (by omega)
     have v2:IntKind.i64.wrap (j:Int)=(j:Int):=IntWalk.i64_in _ (by omega)
     have v3:IntKind.i64.wrap ((j:Int)+1+1)=(j:Int)+1+1:=IntWalk.i64_in _ (by omega)
     have hcl:=HK.out.2.1.2 a b
     have he:=HK.out.2.1.1 #[.int .u8 (a.toNat:Int),.int .u8 (b.toNat:Int)] wr.drew
     have hdq:=hd.below hF (Below.refl _ wr).drew
     have hpre:bg a b=true→bndK bg l (j+1)++[j+1]<+:bndK bg l l.length:=fun h=>by
       have:=bndK_pre bg l (k:=j+1+1) (n:=l.length) (by omega)
       rw[hsuc,if_pos h] at this
       exact this
     generalize bg a b=z at *
     have HC:=Lib.hid (And.intro hcl (And.intro hdq hsuc))
     clear hcl hdq hsuc ha hb p2 p4 hB hd hks hkf hk2
     cases z
     ·clear hpre
      gi_wp2_with fail
      refine wpIn_region_hst 0 12 (by kernel_rfl) (by kernel_rfl) fun K hK=>?_
      simp only[List.take_succ_cons,List.take_zero,List.drop_succ_cons,List.drop_zero] at hK ⊢
      refine hK _ _ ?_
      clear hK K
      repeat still_step
      still_call (Calls.mono (HC.out.1 _) (fun e w'' hh=>hh))
      repeat still_step
      try refine wpStill_nil ?_
      gi_wp2_with (first
        | ((with_reducible refine⟨fun f h=>?_,?_⟩);cases h))
      exact⟨⟨j+1+1,_,by omega,.inl (by omega),by go_num,by rw[HC.out.2.2,if_neg (by decide),List.append_nil];exact HC.out.2.1⟩,by simp[intOf];omega⟩
     ·obtain⟨fn,tmps,assign,body,hy,hR⟩:=HK.out.1.one HC.out.2.1.j (hpre rfl) (n-1)
      have hr8:=Lib.hid hR
      simp only[encC] at hy
      rw[show ((j+1:Nat):Int)=(j:Int)+1 by omega] at hy
      have hy8:=Lib.hid hy
      clear hR hy hpre
      gi_wp2_with fail
      refine wpIn_region_hst 0 12 (by kernel_rfl) (by kernel_rfl) fun K hK=>?_
      simp only[List.take_succ_cons,List.take_zero,List.drop_succ_cons,List.drop_zero] at hK ⊢
      refine hK _ _ ?_
      clear hK K
      repeat still_step
      still_call (Calls.mono (HC.out.1 _) (fun e w'' hh=>hh))
      repeat still_step
      try refine wpStill_nil ?_
      gi_wp2_with (first
        | (rw[hy8.out]))
      refine⟨fun h=>by simp[Fence.wide] at h,?_⟩
      refine hr8.out.mono ?_
      rintro e W7 ⟨b8,rfl,hj7,hjx7,hk7,hs7⟩
      cases b8
      ·have H8:=Lib.hid (hjx7 rfl)
       clear hj7 hjx7 hk7 hs7
       gi_wp2_with fail
       refine bodyPost_ret (results_none rfl _ _ _) rfl ?_
       exact⟨⟨_,rfl⟩,.inr ⟨_,_,trivial,H8.out⟩⟩
      ·have H8:=Lib.hid (HC.out.2.1.next (hj7 rfl) hk7 hs7)
       clear hj7 hjx7 hk7 hs7
       gi_wp2_with fail
       exact⟨⟨j+1+1,_,by omega,.inl (by omega),by go_num,by rw[HC.out.2.2,if_pos (by trivial)];exact H8.out⟩,by simp[intOf];omega⟩
    ·have HE:=Lib.hid hd
     clear hd hks hkf
     have hkE:bndK bg l k=bndK bg l l.length:=by
       rcases hk2 with h|h
       ·rw[show k=l.length by omega]
       ·subst h
        have h0:l.length=0∨l.length=1:=by omega
        rcases h0 with h|h<;>rw[h]<;>rfl
     have HX:=Lib.hid hkE
     clear hkE hk2
     gi_wp2_with fail
     go_end0
     exact⟨⟨_,rfl⟩,.inl ⟨_,X,rfl,by rw[←HX.out];exact HE.out.j⟩⟩
theorem bounds_p (l:List UInt8) (bf:Nat) (w:World) :
    Calls Tryz.prog 39 #[.string ⟨l.toArray⟩,.func (.func bf) #[] #[]] w fun e w'=>e=.returned (.func (.func 60) #[] #[.pointer (some ⟨w.heap.size,0,none⟩),.pointer (some ⟨w.heap.size+1,0,none⟩)])∧w'=(w.alloc (.cells #[.string ⟨l.toArray⟩] 9)).alloc (.cells #[.func (.func bf) #[] #[]] 84):=by
  go_enter Tryz.func39,Tryz.ntmps39
  go_wp2
  go_ret
  exact⟨by simp,rfl⟩
theorem bounds_it (l:List UInt8) (hl:l.length≤900) (bf:Nat) (bg:UInt8→UInt8→Bool) (hbf:BegC bf bg) (w:World) :
    Calls Tryz.prog 39 #[.string ⟨l.toArray⟩,.func (.func bf) #[] #[]] w fun e w'=>∃gf lb,e=.returned (.func (.func gf) #[] lb)∧IterI gf lb (bndK bg l l.length) w'∧Below w.heap.size w w':=by
  refine(bounds_p l bf w).mono ?_
  rintro e w' ⟨rfl,hw⟩
  have hs:w'.heap.size=w.heap.size+2:=by rw[hw];simp
  have k1:Bk w' w.heap.size 9 #[.string ⟨l.toArray⟩]:=by rw[hw];exact(Bk.new w _ _).alloc _
  have k2:Bk w' (w.heap.size+1) 84 #[.func (.func bf) #[] #[]]:=by rw[hw];exact bk_second w _ _ _ _
  refine⟨_,_,rfl,⟨enters_of Tryz.func60 (by kernel_rfl) rfl,fun W0 hW0=>?_⟩,by rw[hw];exact((Below.refl _ w).alloc (Nat.le_refl _) _).alloc (by simp) _⟩
  intro n l' J Jx W hW hF _ hY hJ
  have hb:=hW0.trans (hW.mono hW0.size)
  exact bounds_in n l' _ _ bf w'.heap.size bg hbf _ l J Jx hF hY hl W (k1.below hb k1.lt) ⟨by omega,fun h=>h⟩ (k2.below hb k2.lt) ⟨by omega,fun h=>h⟩ hb.size hJ
end Go.Proofs.YtgdifhhioahakaaGreatDoor
