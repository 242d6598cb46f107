/- slices.Compact of a row of ints that rises, or whose first one stands twice. -/
import Derived.Test.YtgdifhhioahakaaGreatDoorMem
import Derived.Test.YtgdifhhioahakaaGreatDoorMo9
namespace Go.Proofs.YtgdifhhioahakaaGreatDoor
open Go.RowKit
set_option linter.unusedVariables false
set_option linter.unusedSimpArgs false
set_option maxRecDepth 100000
attribute [local go_sem] Oper.semAt_some
def ivs (l:List Int):List Value:=l.map fun i=>Value.int .i64 i
theorem ivs_len (l:List Int):(ivs l).length=l.length:=by simp[ivs]
theorem ivs_at {l:List Int} {k:Nat} {x:Int} (h:l[k]? = some x):(ivs l)[k]? = some (.int .i64 x):=by
  unfold ivs;rw[List.getElem?_map,h];rfl
set_option maxHeartbeats 4000000 in
theorem compact_rise (R:List Int) (B g cap n:Nat) (w:World) (hn:n=R.length) (h2:2≤n) (hr:R.Pairwise (· < ·)) (ho:w.ownsRow B 3 1 (.slice (some ⟨g,0,none⟩) n cap) n (ivs R)) :
    Calls Tryz.prog 23 #[.slice (some ⟨g,0,none⟩) n cap] w fun e w'=>e=.returned (.slice (some ⟨g,0,none⟩) n cap)∧∃m,w'=w.drewN m:=by
  have hcap:=own_le ho
  unfold maxLen at hcap
  have H:=Lib.hid (And.intro hr ho)
  have HN:=Lib.hid hn
  have t0:decide ((n:Int)<2)=false:=by simp;omega
  clear hr ho hn
  go_enter Tryz.func23,Tryz.ntmps23
  go_wp2
  go_loopw [3] (fun i wr=>∃k m:Nat,1≤k∧k≤n∧i=.int .i64 k∧wr=w.drewN m) (fun i _=>n-(intOf i).toNat)
  case atStart=>exact⟨1,0,Nat.le_refl _,by omega,rfl,rfl⟩
  case round=>
    obtain⟨k,m,hk1,hk2,rfl,rfl⟩:=hrel
    by_cases hlt:k<n
    ·obtain⟨j,rfl⟩:∃j,k=j+1:=⟨k-1,by omega⟩
     obtain⟨x,hx⟩:∃x,R[j]? = some x:=⟨_,List.getElem?_eq_getElem (by have:=HN.out;omega)⟩
     obtain⟨y,hy⟩:∃y,R[j+1]? = some y:=⟨_,List.getElem?_eq_getElem (by have:=HN.out;omega)⟩
     have c1:w.cell? ⟨g,j,none⟩=some (.int .i64 x):=own_cell H.out.2 _ _ (ivs_at hx)
     have c2:w.cell? ⟨g,j+1,none⟩=some (.int .i64 y):=own_cell H.out.2 _ _ (ivs_at hy)
     have hlt2:x<y:=by
       obtain⟨p1,p2⟩:=List.getElem?_eq_some_iff.1 hx
       obtain⟨p3,p4⟩:=List.getElem?_eq_some_iff.1 hy
       rw[←p2,←p4]
       exact List.pairwise_iff_getElem.1 H.out.1 j (j+1) p1 p3 (by omega)
     have t1:(y==x)=false:=beq_false_of_ne (by omega)
     have u1:(j:Int)+1<(n:Int):=by omega
     have u2:(0:Int)≤(j:Int):=by omega
     have u3:(j:Int)<(n:Int):=by omega
     have u4:(0:Int)≤(j:Int)+1:=by omega
     have v2:IntKind.i64.wrap (j:Int)=(j:Int):=IntWalk.i64_in _ (by omega)
     have v1:IntKind.i64.wrap ((j:Int)+1-1)=(j:Int):=by rw[Int.add_sub_cancel];exact IntWalk.i64_in _ (by omega)
     clear hx hy hlt2
     go_wp2_with fail
     go_quiet (fail)
     go_wp2_with fail
     exact⟨⟨j+1+1,_,by omega,by omega,by go_num,rfl⟩,by simp[intOf];omega⟩
    ·obtain rfl:k=n:=by omega
     go_wp2
     go_ret
     exact⟨rfl,_,rfl⟩
set_option maxHeartbeats 4000000 in
theorem compact_two (a:Int) (r:List Int) (B g cap t:Nat) (w:World) (hn:t=r.length) (hr:(a::r).Pairwise (· < ·)) (ho:w.ownsRow B 3 1 (.slice (some ⟨g,0,none⟩) (t+2) cap) (t+2) (ivs (a::a::r))) :
    Calls Tryz.prog 23 #[.slice (some ⟨g,0,none⟩) ((t+2:Nat)) cap] w fun e w'=>e=.returned (.slice (some ⟨g,0,none⟩) ((t+1:Nat)) cap)∧w'.ownsRow B 3 1 (.slice (some ⟨g,0,none⟩) (t+1) cap) (t+1) (ivs (a::r))∧Below B w w':=by
  have hcap:=own_le ho
  unfold maxLen at hcap
  have H:=Lib.hid (And.intro hr (And.intro ho hn))
  have t0:decide (((t+2:Nat):Int)<2)=false:=by simp;omega
  have c0:w.cell? ⟨g,0,none⟩=some (.int .i64 a):=own_cell ho _ _ rfl
  have c1:w.cell? ⟨g,1,none⟩=some (.int .i64 a):=own_cell ho _ _ rfl
  have u0:((1:Int))<((t+2:Nat):Int):=by omega
  have u00:((0:Int))<((t+2:Nat):Int):=by omega
  clear hr ho hn
  go_enter Tryz.func23,Tryz.ntmps23
  go_wp2
  go_loopw [3] (fun i wr=>i=.int .i64 1∧wr=w) (fun _ _=>0)
  case atStart=>exact⟨rfl,rfl⟩
  case round=>
    obtain⟨rfl,hw⟩:=hrel
    obtain rfl:=hw.symm
    go_wp2_with fail
    go_quiet (fail)
    go_wp2_with fail
    go_loopw [3,5] (fun s3 s5 wr=>∃(q:Nat) (Z:List Int),1≤q∧q≤t+1∧s3=.int .i64 q∧s5=.int .i64 q∧wr.ownsRow B 3 1 (.slice (some ⟨g,0,none⟩) (t+2) cap) (t+2) (ivs Z)∧Z.length=t+2∧(∀p,Z[p]? = if p<q then (a::r)[p]? else (a::a::r)[p]?)∧Below B w wr) (fun s3 s5 _=>t+1-(intOf s5).toNat)
    case atStart=>
      refine⟨1,a::a::r,Nat.le_refl _,by omega,rfl,rfl,H.out.2.1,by have:=H.out.2.2;simp;omega,fun p=>?_,below_drewN' (Below.refl _ _) _⟩
      by_cases hp:p<1
      ·obtain rfl:p=0:=by omega
       rfl
      ·rw[if_neg hp]
    case round=>
      obtain⟨q,Z,hq1,hq2,rfl,rfl,ho,hZ,hp,hb⟩:=hrel
      by_cases hlt:q<t+1
      ·obtain⟨j,rfl⟩:∃j,q=j+1:=⟨q-1,by omega⟩
       have hn:=H.out.2.2
       obtain⟨x,hx⟩:∃x,r[j]? = some x:=⟨_,List.getElem?_eq_getElem (by omega)⟩
       obtain⟨y,hy⟩:∃y,(a::r)[j]? = some y:=⟨_,List.getElem?_eq_getElem (by simp;omega)⟩
       have hlt2:y<x:=by
         obtain⟨p1,p2⟩:=List.getElem?_eq_some_iff.1 hy
         obtain⟨p3,p4⟩:=List.getElem?_eq_some_iff.1 hx
         rw[←p2,←p4]
         exact List.pairwise_iff_getElem.1 H.out.1 j (j+1) p1 (by simp;omega) (by omega)
       have t1:(x != y)=true:=by simp;omega
       have z1:Z[j+1]? = some y:=by rw[hp,if_neg (by omega)];exact hy
       have z2:Z[j+2]? = some x:=by rw[hp,if_neg (by omega)];exact hx
       have c1:wr.cell? ⟨g,1+j,none⟩=some (.int .i64 y):=by rw[Nat.add_comm];exact own_cell ho _ _ (ivs_at z1)
       have c2:wr.cell? ⟨g,1+(j+1),none⟩=some (.int .i64 x):=by rw[Nat.add_comm];exact own_cell ho _ _ (ivs_at z2)
       have c3:wr.cell? ⟨g,j+1,none⟩=some (.int .i64 y):=own_cell ho _ _ (ivs_at z1)
       have f1:=own_frozen ho (j+1)
       have u1:(j:Int)+1<((t+1:Nat):Int):=by omega
       have u2:(0:Int)≤(j:Int):=by omega
       have u3:(j:Int)<((t+1:Nat):Int):=by omega
       have u4:(0:Int)≤(j:Int)+1:=by omega
       have u5:(j:Int)+1<((t+2:Nat):Int):=by omega
       have v1:IntKind.i64.wrap ((j:Int)+1-1)=(j:Int):=by rw[Int.add_sub_cancel];exact IntWalk.i64_in _ (by omega)
       have v2:IntKind.i64.wrap (j:Int)=(j:Int):=IntWalk.i64_in _ (by omega)
       have hown:∀m,((wr.drewN m).setCell ⟨g,j+1,none⟩ (.int .i64 x)).ownsRow B 3 1 (.slice (some ⟨g,0,none⟩) (t+2) cap) (t+2) (ivs (Z.set (j+1) x)):=fun m=>by
         have h:=own_set (w:=wr.drewN m) ho (j+1) (.int .i64 x)
         unfold ivs at h ⊢
         rwa [List.map_set]
       have hbb:∀m,Below B w ((wr.drewN m).setCell ⟨g,j+1,none⟩ (.int .i64 x)):=fun m=>(below_drewN' hb m).setCell hcap.2.2.2.1 _
       have hp2:∀p,(Z.set (j+1) x)[p]? = if p<j+1+1 then (a::r)[p]? else (a::a::r)[p]? := fun p=>by
         rw[List.getElem?_set,hp]
         by_cases e:j+1=p
         ·subst e
          rw[if_pos rfl,if_pos (by omega),if_pos (by omega)]
          exact hx.symm
         ·rw[if_neg e]
          by_cases h:p<j+1
          ·rw[if_pos h,if_pos (by omega)]
          ·rw[if_neg h,if_neg (by omega)]
       have HZ:=Lib.hid (And.intro hown (And.intro hbb hp2))
       clear ho hb hp hx hy hlt2 z1 z2 hown hbb hp2 hn
       go_wp2_with fail
       go_quiet (fail)
       go_wp2_with fail
       exact⟨⟨j+1+1,_,by omega,by omega,by go_num,by go_num,HZ.out.1 _,by simp[hZ],HZ.out.2.2,HZ.out.2.1 _⟩,by simp[intOf];omega⟩
      ·obtain rfl:q=t+1:=by omega
       have hcl:∀ty c',(Builtin.clear_ #[37] ty #[.slice (some ⟨g,t+1,none⟩) 1 c']).run Tryz.prog wr=.ok (.tuple #[]) (wr.setCells g (t+1) (List.replicate 1 (.int .i64 0))):=
         fun ty c'=>Lib.run_clear_slice wr _ 3 ty (.int .i64 0) rfl (fun w=>rfl) rfl rfl g (t+1) 1 c' (by omega) (fun j hj=>by rw[show t+1+j=t+1 by omega,own_cell ho (t+1) _ (ivs_at (List.getElem?_eq_getElem (by omega)))];rfl) (fun j hj=>own_frozen ho _)
       have HZ:=Lib.hid (And.intro ho (And.intro hb hp))
       clear ho hb hp
       go_wp2
       go_ret
       refine⟨rfl,?_,HZ.out.2.1.setCell hcap.2.2.2.1 _⟩
       have h:=own_set HZ.out.1 (t+1) (.int .i64 0)
       have hn:=H.out.2.2
       have e:Z.set (t+1) 0=(a::r)++[0]:=by
         refine List.ext_getElem? fun p=>?_
         rw[List.getElem?_set,HZ.out.2.2]
         by_cases h1:t+1=p
         ·subst h1
          rw[if_pos rfl,if_pos (by omega),hn,List.getElem?_append_right (by simp)]
          simp
         ·rw[if_neg h1]
          by_cases h2:p<t+1
          ·rw[if_pos h2,List.getElem?_append_left (by simp;omega)]
          ·rw[if_neg h2,List.getElem?_eq_none (by simp;omega),List.getElem?_eq_none (by simp;omega)]
       have e2:(ivs Z).set (t+1) (.int .i64 0)=ivs (a::r)++[.int .i64 0]:=by
         have:=congrArg ivs e
         unfold ivs at this ⊢
         rw[List.map_set,List.map_append] at this
         exact this
       rw[e2] at h
       exact Go.ownsRow_pop (by rw[ivs_len];simp;omega) h
end Go.Proofs.YtgdifhhioahakaaGreatDoor
