/- quillwortref09.Step is stepL: the cases joined. -/
import Derived.Test.YtnclfgkpcpcapaaGreatDoorRq9
import Derived.Test.YtnclfgkpcpcapaaGreatDoorEc9
import Derived.Test.YtnclfgkpcpcapaaGreatDoorLa9
namespace Go.Proofs.YtnclfgkpcpcapaaGreatDoor
open Go.RowKit
set_option linter.unusedVariables false
set_option linter.unusedSimpArgs false
set_option maxRecDepth 100000
theorem opN_of (d:List UInt8):∀n,(opN d n).2≠0→opOf (d.take (opN d n).2)=(opN d n).1
  | 0,h=>absurd rfl h
  | n+1,h=>by
    unfold opN at h ⊢
    split
    ·rfl
    ·rename_i h2
     rw[if_neg h2] at h
     exact opN_of d n h
theorem opOf_at (l:List UInt8) (x:Nat) (hx:x≤l.length) (h:0<(opAt l x).2):opOf (sub l x (x+(opAt l x).2))=(opAt l x).1:=by
  rw[sub_take' l x _ hx]
  unfold opAt at h ⊢
  split at h
  ·simp at h
  ·rename_i hc
   rw[if_neg hc]
   exact opN_of _ _ (by omega)
theorem rstep_all (l:List UInt8) (x:Nat) (X:Lx) (hl:l.length≤900) (hx:x<l.length) (hinv:X.bd=true→X.pd≠[]):StepR l x X (stepL l x X).1 (stepL l x X).2:=by
  by_cases hb:X.bd=true
  ·obtain⟨d,r,hX⟩:∃d r,X.pd=d::r:=by
     cases h:X.pd with
     | nil=>exact absurd h (hinv hb)
     | cons d r=>exact⟨d,r,rfl⟩
   have hs:stepL l x X=docL l x X d r:=by unfold stepL;rw[hb,hX]
   rw[hs]
   unfold docL
   cases hok:(hereL l x d.1 d.2).2
   ·exact rstep_doc0 l x X hl hx hb d r hX hok
   ·exact rstep_doc1 l x X hl hx hb d r hX hok
  ·have hb:X.bd=false:=by simpa using hb
   have hs:stepL l x X=(plainL l x,behindL (sub l x (plainL l x).to) (plainL l x).kd X):=by unfold stepL;rw[hb]
   rw[hs]
   by_cases hbl:x<blankL l x
   ·have hp:plainL l x=⟨1,x,blankL l x,false⟩:=by unfold plainL;rw[if_pos ((blankL_gt l x hx).1 hbl)]
    rw[hp]
    have:behindL (sub l x (blankL l x)) 1 X=X:=by obtain⟨a,p,b⟩:=X;obtain rfl:b=false:=hb;rfl
    show StepR l x X _ (behindL (sub l x (blankL l x)) 1 X)
    rw[this]
    exact rstep_blank l x X hl hx hb hbl
   ·have hnb:blankL l x=x:=by have:=(blankL_le l _ x rfl (by omega)).1;omega
    have hnb2:¬(blankB (l.getD x 0)=true∨contB l x=true):=fun h=>hbl ((blankL_gt l x hx).2 h)
    by_cases h10:(l.getD x 0).toNat=10
    ·have hp:plainL l x=⟨2,x,x+1,false⟩:=by unfold plainL;rw[if_neg hnb2,if_pos h10]
     rw[hp]
     exact rstep_nl l x X hl hx hb hnb h10
    ·by_cases h35:(l.getD x 0).toNat=35
     ·have hp:plainL l x=⟨3,x,lineN l x,false⟩:=by unfold plainL;rw[if_neg hnb2,if_neg h10,if_pos h35]
      rw[hp]
      exact rstep_comment l x X hl hx hb hnb h35
     ·by_cases hop:0<(opAt l x).2
      ·have hp:plainL l x=⟨4,x,x+(opAt l x).2,false⟩:=by unfold plainL;rw[if_neg hnb2,if_neg h10,if_neg h35,if_pos hop]
       rw[hp]
       have ho:=opOf_at l x (by omega) hop
       show StepR l x X _ (behindL (sub l x (x+(opAt l x).2)) 4 X)
       by_cases h45:(opAt l x).1=4∨(opAt l x).1=5
       ·have:behindL (sub l x (x+(opAt l x).2)) 4 X=⟨((opAt l x).1:Int),X.pd,false⟩:=by
          unfold behindL
          rw[if_neg (by decide),if_neg (by decide),if_pos rfl,ho,if_pos h45]
        rw[this]
        exact rstep_op45 l x X hl hx hb hnb h10 h35 hop h45
       ·have:behindL (sub l x (x+(opAt l x).2)) 4 X=⟨0,X.pd,false⟩:=by
          unfold behindL
          rw[if_neg (by decide),if_neg (by decide),if_pos rfl,ho,if_neg h45]
        rw[this]
        exact rstep_op l x X hl hx hb hnb h10 h35 hop ⟨fun h=>h45 (.inl h),fun h=>h45 (.inr h)⟩
      ·have hop0:(opAt l x).2=0:=by omega
       by_cases hn:numB l x=true
       ·have hp:plainL l x=⟨5,x,x+digN l x,false⟩:=by unfold plainL;rw[if_neg hnb2,if_neg h10,if_neg h35,if_neg hop,if_pos hn]
        rw[hp]
        exact rstep_num l x X hl hx hb hnb h10 h35 hop0 hn
       ·have hp:plainL l x=⟨6,x,x+endL l x,!shutB (sub l x (x+endL l x))⟩:=by unfold plainL;rw[if_neg hnb2,if_neg h10,if_neg h35,if_neg hop,if_neg hn]
        rw[hp]
        have hn:numB l x=false:=by simpa using hn
        show StepR l x X _ (behindL (sub l x (x+endL l x)) 6 X)
        by_cases haw:X.aw=0
        ·have:behindL (sub l x (x+endL l x)) 6 X=⟨0,X.pd,false⟩:=by
           unfold behindL
           rw[if_neg (by decide),if_neg (by decide),if_neg (by decide),if_pos rfl,if_neg (fun h=>h haw)]
         rw[this]
         exact rstep_word0 l x X hl hx hb hnb h10 h35 hop0 hn haw
        ·have:behindL (sub l x (x+endL l x)) 6 X=⟨0,X.pd++[(txL (pcsL (sub l x (x+endL l x))),decide (X.aw=5))],false⟩:=by
           unfold behindL
           rw[if_neg (by decide),if_neg (by decide),if_neg (by decide),if_pos rfl,if_pos haw]
         rw[this]
         exact rstep_word1 l x X hl hx hb hnb h10 h35 hop0 hn haw
end Go.Proofs.YtnclfgkpcpcapaaGreatDoor
namespace Go.Proofs.YtnclfgkpcpcapaaGreatDoor
open Go.RowKit
set_option linter.unusedVariables false
set_option linter.unusedSimpArgs false
set_option maxRecDepth 100000
def LInv (X:Lx) (x:Nat):Prop:=(X.bd=true→X.pd≠[])∧X.pd.length≤x
theorem linv_step (l:List UInt8) (x:Nat) (X:Lx) (hx:x<l.length) (h:LInv X x):LInv (stepL l x X).2 (stepL l x X).1.to:=by
  have hto:=stepL_to l x hx X
  obtain⟨h1,h2⟩:=h
  unfold stepL at hto ⊢
  split
  ·rename_i d r hb hp
   rw[hb,hp] at hto
   simp only at hto
   unfold docL at hto ⊢
   split
   ·rename_i hok
    rw[if_pos hok] at hto
    refine⟨fun h=>?_,?_⟩
    ·intro h3
     have h:(!r.isEmpty)=true:=h
     have h3:r=[]:=h3
     rw[h3] at h
     cases h
    ·show r.length≤_
     have:X.pd.length=r.length+1:=by rw[hp];rfl
     have:=hto.2.1
     omega
   ·rename_i hok
    rw[if_neg hok] at hto
    exact⟨h1,by have:=hto.2.1;show X.pd.length≤_;omega⟩
  ·rename_i hne
   have hto2:x<(plainL l x).to:=(plainL_to l x hx).2.1
   refine⟨?_,?_⟩
   ·unfold behindL
    split
    ·intro h;cases h
    ·split
     ·intro h h3
      have h:(!X.pd.isEmpty)=true:=h
      have h3:X.pd=[]:=h3
      rw[h3] at h
      cases h
     ·split
      ·intro h;cases h
      ·split
       ·intro h;cases h
       ·intro h;cases h
   ·show (behindL _ _ X).pd.length≤(plainL l x).to
    unfold behindL
    split
    ·show X.pd.length≤_;omega
    ·split
     ·show X.pd.length≤_;omega
     ·split
      ·show X.pd.length≤_;omega
      ·split
       ·show (if _ then _ else _:List Dl).length≤_
        split
        ·rw[List.length_append];show X.pd.length+1≤_;omega
        ·omega
       ·show X.pd.length≤_;omega
set_option maxHeartbeats 4000000 in
theorem rlex_m (l:List UInt8) (w:World) (hl:l.length≤900) :
    Calls Tryz.prog 20 #[.string ⟨l.toArray⟩] w fun e w'=>∃v1 v2,e=.returned (.tuple #[v1,v2])∧w'.ownsRow w.heap.size 40 4 v1 (lexL l).1.length (tkcs (lexL l).1)∧LxP w' (lexL l).2 v2∧Below w.heap.size w w':=by
  obtain⟨i0,hi,hz0,hz1,hz2⟩:=info_parts Tryz.infoToken
  obtain⟨LL,hLL⟩:∃LL,LL=lexL l:=⟨_,rfl⟩
  rw[←hLL]
  have HLL:=Lib.hid hLL
  clear hLL
  go_enter Tryz.func20,Tryz.ntmps20
  go_upto_region 3 with fail
  refine gen2 fun W hbW hk0 hk1 hsW=>?_
  have HW:=Lib.hid (And.intro hbW (And.intro hk0 (And.intro hk1 hsW)))
  clear hbW hk0 hk1 hsW
  go_wp2_with fail
  go_loopw [4,6,7,8] (fun o i a b wr=>∃(ts:List Tk) (x:Nat) (X:Lx) (A:Option Addr) (c:Nat),i=.int .i64 (x:Int)∧x≤l.length∧ts.length≤x∧LInv X x∧wr.ownsRow (w.heap.size+2) 40 4 o ts.length (tkcs ts) ∧
      Bk wr w.heap.size 45 #[.int .i64 0,.slice none 0 0,.bool false]∧Bk wr (w.heap.size+1) 45 #[.int .i64 X.aw,.slice A X.pd.length c,.bool X.bd]∧Rt wr 73 2 (.slice A X.pd.length c) X.pd.length (dcls X.pd)∧Below w.heap.size w wr∧LL=(ts++(lexA l x X).1,(lexA l x X).2)) (fun o i a b _=>l.length-(intOf i).toNat)
  case atStart=>
    exact⟨[],0,lx0,none,0,rfl,Nat.zero_le _,Nat.le_refl _,⟨(fun h=>by cases h),Nat.le_refl _⟩,World.ownsRow_nil _ _ _ _,HW.out.2.1,HW.out.2.2.1,Rt.nil _ _ _,HW.out.1,HLL.out⟩
  case round=>
    obtain⟨ts,x,X,A,c,rfl,hxl,htl,hinv,hown,hk0,hk1,hrt,hbw,hLX⟩:=hrel
    obtain⟨A2,n2,c2,rfl⟩:=own_form' hown
    obtain rfl:=own_len hown
    by_cases hlt:x<l.length
    ·have u1:(x:Int)<(l.length:Int):=by omega
     have hstep:=rstep_all l x X hl hlt hinv.1 A c
     have hinv2:=linv_step l x X hlt hinv
     have hto:=stepL_to l x hlt X
     have hLX2:LL=((ts++[(stepL l x X).1])++(lexA l (stepL l x X).1.to (stepL l x X).2).1,(lexA l (stepL l x X).1.to (stepL l x X).2).2):=by
       rw[hLX,lexA_eq l x X,if_pos hlt]
       simp
     generalize stepL l x X=TY at hstep hinv2 hto hLX2
     obtain⟨⟨kd,fr,tt,op⟩,Y⟩:=TY
     obtain⟨p0,p1,p2,p3,p4,p5⟩:=hk1.three
     have hsz:w.heap.size+2≤wr.heap.size:=by have:=hk1.lt;omega
     have HP:=Lib.hid (And.intro hstep (And.intro hinv (And.intro hinv2 (And.intro hto (And.intro hLX2 (And.intro hown (And.intro hk0 (And.intro hk1 (And.intro hrt hbw)))))))))
     clear hstep hinv hinv2 hto hLX2 hown hk0 hk1 hrt hbw hLX
     go_wp2_with (first
       | (go_at_call 30
          refine(HP.out.1 wr HP.out.2.2.2.2.2.2.2.2.1 (by have:=HP.out.2.1.2;omega)).mono ?_
          rintro e w5 ⟨v,rfl,⟨v1,rfl,hr5⟩,hb5⟩
          obtain⟨A1,c1,rfl⟩:=hr5.form
          unfold lxv tkv
          have H5:=Lib.hid (And.intro hr5 hb5)
          clear hr5 hb5)
       | (at_builtin
          refine wpList_append_rd rfl (.tmp 21) (.tmp 23) 30 rfl (w.heap.size+2) 40 i0 _ 4 32 Tryz.underlying30 hi hz0 hz1 hz2 rfl (by decide) (.slice A2 ts.length c2) ts.length (tkcs ts) rfl ((((own_below HP.out.2.2.2.2.2.1 H5.out.2).alloc _).alloc _).alloc _) (.slice (some ⟨w5.heap.size+1+1,0,none⟩) 1 1) 1 (w5.heap.size+1+1+1) (tkcs [⟨kd,fr,tt,op⟩]) rfl (by have hr:=rd_new ((w5.alloc (.cells #[.int .i64 (kd:Int),.int .i64 (fr:Int),.int .i64 (tt:Int),.bool op] 40)).alloc (.cells #[.int .i64 Y.aw,.slice A1 Y.pd.length c1,.bool Y.bd] 45)) (tkcs [⟨kd,fr,tt,op⟩]) 40 4 1 rfl (by omega);rw[show ((w5.alloc (.cells #[.int .i64 (kd:Int),.int .i64 (fr:Int),.int .i64 (tt:Int),.bool op] 40)).alloc (.cells #[.int .i64 Y.aw,.slice A1 Y.pd.length c1,.bool Y.bd] 45)).heap.size=w5.heap.size+1+1 by simp] at hr;exact hr) (one_tk _) (by unfold maxLen;omega) (by omega) (by have:=H5.out.2.size;simp;omega) ?_
          intro v3 w3 hown3 hg3 hv3
          have hne:∀k,(Value.slice A2 ts.length c2).ownBlock=some k→w.heap.size+2≤k∧k<wr.heap.size:=fun k hk=>HP.out.2.2.2.2.2.1.lt k hk
          have h5s:=H5.out.2.size
          have m0:Bk w3 w.heap.size 45 #[.int .i64 0,.slice none 0 0,.bool false]:=((((HP.out.2.2.2.2.2.2.1.below H5.out.2 HP.out.2.2.2.2.2.2.1.lt).alloc _).alloc _).alloc _).grown hg3 (fun e=>by have:=(hne _ e.symm).1;omega)
          have m1:Bk w3 (w.heap.size+1) 45 #[.int .i64 X.aw,.slice A X.pd.length c,.bool X.bd]:=((((HP.out.2.2.2.2.2.2.2.1.below H5.out.2 HP.out.2.2.2.2.2.2.2.1.lt).alloc _).alloc _).alloc _).grown hg3 (fun e=>by have:=(hne _ e.symm).1;omega)
          have m7:Bk w3 w5.heap.size 40 #[.int .i64 (kd:Int),.int .i64 (fr:Int),.int .i64 (tt:Int),.bool op]:=(((Bk.new w5 _ _).alloc _).alloc _).grown hg3 (fun e=>by have:=(hne _ e.symm).2;omega)
          have m8:Bk w3 (w5.heap.size+1) 45 #[.int .i64 Y.aw,.slice A1 Y.pd.length c1,.bool Y.bd]:=((bk_second w5 _ _ _ _).alloc _).grown hg3 (fun e=>by have:=(hne _ e.symm).2;omega)
          have hr3:Rt w3 73 2 (.slice A1 Y.pd.length c1) Y.pd.length (dcls Y.pd):=(((H5.out.1.next (Below.alloc (Below.refl _ _) (Nat.le_refl _) _)).next (Below.alloc (Below.refl _ _) (Nat.le_refl _) _)).next (Below.alloc (Below.refl _ _) (Nat.le_refl _) _)).keep hg3 (fun kk hk=>by obtain⟨cs,t2,fr2,h1,h2⟩:=own_blk ((((own_below HP.out.2.2.2.2.2.1 H5.out.2).alloc _).alloc _).alloc _) kk hk;exact⟨t2,cs,fr2,h1,by rw[h2];decide⟩)
          have hb5w:Below w.heap.size w w5:=HP.out.2.2.2.2.2.2.2.2.2.trans (H5.out.2.mono HP.out.2.2.2.2.2.2.2.2.2.size)
          have hb3:Below w.heap.size w w3:=Below.grown (((hb5w.alloc hb5w.size _).alloc (by simp;omega) _).alloc (by simp;omega) _) hg3 (by simp;omega) (fun k hk=>by have:=(hne k hk).1;omega)
          obtain⟨A3,n3,c3,rfl⟩:=own_form' hown3
          obtain rfl:=own_len hown3
          clear p0 p1 p2 p3 p4 p5
          obtain⟨p0,p1,p2,p3,p4,p5⟩:=m1.three
          obtain⟨q0,q1,q2,q3,_⟩:=m7.four
          obtain⟨r0,r1,r2,_⟩:=m8.three
          have s1:¬w5.heap.size=w.heap.size+1:=by omega
          have s2:¬w5.heap.size+1=w.heap.size+1:=by omega
          have s3:¬w.heap.size+1=w5.heap.size:=by omega
          have H3:=Lib.hid (And.intro hown3 (And.intro hg3 (And.intro m0 (And.intro m1 (And.intro m7 (And.intro m8 (And.intro hr3 hb3)))))))
          clear hown3 hg3 hv3 m0 m1 m7 m8 hne h5s hr3 hb3 hb5w))
     have o3:=H3.out.1
     have ne1:(Value.slice A3 (ts.length+1) c3).ownBlock≠some (w.heap.size+1):=fun h=>by have:=(o3.lt _ h).1;omega
     have z1:=((H3.out.2.2.2.1.set 0 (.int .i64 Y.aw)).set 1 (.slice A1 Y.pd.length c1)).set 2 (.bool Y.bd)
     have z0:=((H3.out.2.2.1.far (p:=⟨w.heap.size+1,0,none⟩) (by show w.heap.size≠w.heap.size+1;omega) (.int .i64 Y.aw)).far (p:=⟨w.heap.size+1,1,none⟩) (by show w.heap.size≠w.heap.size+1;omega) (.slice A1 Y.pd.length c1)).far (p:=⟨w.heap.size+1,2,none⟩) (by show w.heap.size≠w.heap.size+1;omega) (.bool Y.bd)
     have zo:=own_far (p:=⟨w.heap.size+1,2,none⟩) (own_far (p:=⟨w.heap.size+1,1,none⟩) (own_far (p:=⟨w.heap.size+1,0,none⟩) o3 ne1 (.int .i64 Y.aw)) ne1 (.slice A1 Y.pd.length c1)) ne1 (.bool Y.bd)
     have zr:=H3.out.2.2.2.2.2.2.1.keep (grown_set (grown_set (grown_set (grown_refl w3 (some (w.heap.size+1))) 0 (.int .i64 Y.aw)) 1 (.slice A1 Y.pd.length c1)) 2 (.bool Y.bd)) (H3.out.2.2.2.1.row (by decide))
     have zb:=((H3.out.2.2.2.2.2.2.2.setCell (p:=⟨w.heap.size+1,0,none⟩) (by show w.heap.size≤w.heap.size+1;omega) (.int .i64 Y.aw)).setCell (p:=⟨w.heap.size+1,1,none⟩) (by show w.heap.size≤w.heap.size+1;omega) (.slice A1 Y.pd.length c1)).setCell (p:=⟨w.heap.size+1,2,none⟩) (by show w.heap.size≤w.heap.size+1;omega) (.bool Y.bd)
     obtain⟨t1,t2,t3,_⟩:=HP.out.2.2.2.1
     have t2:x<tt:=t2
     have t3:tt≤l.length:=t3
     refine⟨⟨ts++[⟨kd,fr,tt,op⟩],tt,Y,A1,c1,rfl,t3,by simp;omega,HP.out.2.2.1,?_,z0,z1,zr,zb,HP.out.2.2.2.2.1⟩,by simp[intOf];omega⟩
     rw[tkcs_app,List.length_append]
     exact zo
    ·obtain rfl:x=l.length:=by omega
     have hend:LL=(ts,X):=by rw[hLX,lexA_eq,if_neg (by omega)];simp
     obtain⟨p0,p1,p2,p3,p4,p5⟩:=hk1.three
     obtain⟨q0,q1,q2,q3,q4,q5⟩:=hk0.three
     have HP:=Lib.hid (And.intro hown (And.intro hk0 (And.intro hk1 (And.intro hrt hbw))))
     clear hown hk0 hk1 hrt hbw hLX hinv HLL
     subst hend
     have s1:¬w.heap.size+1=w.heap.size:=by omega
     have s2:¬w.heap.size=w.heap.size+1:=by omega
     go_wp2_with fail
     go_region
     all_goals (
       have ne0:(Value.slice A2 ts.length c2).ownBlock≠some w.heap.size:=fun h=>by have:=(HP.out.1.lt _ h).1;omega
       have z0:=((HP.out.2.1.set 0 (.int .i64 X.aw)).set 1 (.slice A X.pd.length c)).set 2 (.bool X.bd)
       have zo:=own_far (p:=⟨w.heap.size,2,none⟩) (own_far (p:=⟨w.heap.size,1,none⟩) (own_far (p:=⟨w.heap.size,0,none⟩) HP.out.1 ne0 (.int .i64 X.aw)) ne0 (.slice A X.pd.length c)) ne0 (.bool X.bd)
       have zr:=HP.out.2.2.2.1.keep (grown_set (grown_set (grown_set (grown_refl wr (some w.heap.size)) 0 (.int .i64 X.aw)) 1 (.slice A X.pd.length c)) 2 (.bool X.bd)) (HP.out.2.1.row (by decide))
       have zb:=((HP.out.2.2.2.2.setCell (p:=⟨w.heap.size,0,none⟩) (Nat.le_refl _) (.int .i64 X.aw)).setCell (p:=⟨w.heap.size,1,none⟩) (Nat.le_refl _) (.slice A X.pd.length c)).setCell (p:=⟨w.heap.size,2,none⟩) (Nat.le_refl _) (.bool X.bd)
       have z0:Bk _ w.heap.size 45 #[.int .i64 X.aw,.slice A X.pd.length c,.bool X.bd]:=z0
       generalize World.setCell _ _ _=W5 at z0 zo zr zb ⊢
       obtain⟨t0,t1,t2,_⟩:=z0.three
       try go_wp2
       refine bodyPost_ret (v:=.tuple #[.slice A2 ts.length c2,lxv X.aw (.slice A X.pd.length c) X.bd]) (by simp[results,Tryz.results20,go_sem,lxv,t0,t1,t2]) rfl ?_
       exact⟨_,_,rfl,own_base zo (by omega),⟨_,rfl,zr⟩,by first|exact zb|exact below_drewN' zb 1⟩)
end Go.Proofs.YtnclfgkpcpcapaaGreatDoor
namespace Go.Proofs.YtnclfgkpcpcapaaGreatDoor
set_option linter.unusedVariables false
set_option linter.unusedSimpArgs false
set_option maxRecDepth 100000
theorem plc_step {l:List UInt8} {k x kd fr tt:Nat} {X:Lx} {op:Bool} (hst:stF l k 0 lx0=(x,X)) (hinv:LInv X x) (hget:((plcs l).map Prod.fst)[k]? = some ⟨kd,fr,tt,op⟩) :
    fr=x∧x<l.length∧tt≤l.length∧x<tt∧∃Y,stepL l x X=(⟨kd,fr,tt,op⟩,Y)∧stF l (k+1) 0 lx0=(tt,Y)∧LInv Y tt:=by
  rw[List.getElem?_map] at hget
  cases h2:(plcs l)[k]? with
  | none=>rw[h2] at hget;cases hget
  | some P=>
    rw[h2] at hget
    injection hget with hT
    obtain⟨hxl,hPe⟩:=plc_get h2
    have hs1:=stF_succ l k 0 lx0 hxl
    rw[hst] at hxl hPe hs1
    have hxl:x<l.length:=hxl
    have hPe:P=((stepL l x X).1,X):=hPe
    have hT0:(stepL l x X).1=⟨kd,fr,tt,op⟩:=by rw[←hT,hPe]
    have hinv2:=linv_step l x X hxl hinv
    have hto:=stepL_to l x hxl X
    have hs1:stF l (k+1) 0 lx0=((stepL l x X).1.to,(stepL l x X).2):=hs1
    rw[hT0] at hs1 hinv2 hto
    exact⟨hto.1,hxl,hto.2.2.1,hto.2.1,(stepL l x X).2,Prod.ext hT0 rfl,hs1,hinv2⟩
end Go.Proofs.YtnclfgkpcpcapaaGreatDoor
