/- Chapter 10: what its laws share: edits in memory, short, right, awake, and Apply of any edit. -/
import Derived.Test.YtclllfmbldeneaaGreatDoorAp2
namespace Go.Proofs.YtclllfmbldeneaaGreatDoor
open Go.RowKit
set_option linter.unusedVariables false
set_option linter.unusedSimpArgs false
set_option maxRecDepth 100000
theorem plc_lex1 (l:List UInt8):∀x X,(lexA l x X).1=(plcA l x X).map Prod.fst:=
  plc_ind l (fun x X h=>by rw[lexA_eq,plcA_eq,if_neg h,if_neg h];rfl) (fun x X h ih=>by rw[lexA_eq,plcA_eq,if_pos h,if_pos h];simp[ih])
theorem tail_uniq {e:Ed} {T T':Nat} (h:TailP e T) (h':TailP e T'):T=T':=by
  rcases h.w with ⟨rfl,h1⟩|⟨i,j,h1,h2,rfl⟩
  ·rcases h'.w with ⟨rfl,_⟩|⟨i,j,h3,_,rfl⟩
   ·rfl
   ·exact absurd h3 (h1 i j)
  ·rcases h'.w with ⟨rfl,h3⟩|⟨i',j',h3,h4,rfl⟩
   ·exact absurd h1 (h3 i j)
   ·have:=h2 _ _ h3
    have:=h4 _ _ h1
    rw[show i=i' by omega]
structure Ez where
  a:Int
  d:List UInt8
  i:List UInt8
  ha : -9223372036854775808≤a∧a≤9223372036854775807
theorem ez_row (r:List Value) (hl:r.length=[FK.i,FK.s,FK.s].length) (h:Qk [.i,.s,.s] r):∃x:Ez,r=[.int .i64 x.a,.string ⟨x.d.toArray⟩,.string ⟨x.i.toArray⟩]:=by
  obtain⟨v0,h0,n,rfl,hn⟩:=h 0 .i rfl
  obtain⟨v1,h1,l,rfl,_⟩:=h 1 .s rfl
  obtain⟨v2,h2,m,rfl,_⟩:=h 2 .s rfl
  match r,hl with
  | [x,y,z],_=>
    simp at h0 h1 h2
    subst h0 h1 h2
    exact⟨⟨n,l,m,hn⟩,rfl⟩
def ezc (x:Ez):List Value:=[.int .i64 x.a,.string ⟨x.d.toArray⟩,.string ⟨x.i.toArray⟩]
theorem ezc_len (x:Ez):(ezc x).length=3:=rfl
def ezcs (L:List Ez):List Value:=L.flatMap ezc
theorem ez_rows:∀rows:List (List Value),(∀r∈rows,r.length=[FK.i,FK.s,FK.s].length∧Qk [.i,.s,.s] r)→∃xs:List Ez,rows.flatten=ezcs xs∧xs.length=rows.length:=rows_data ezc ez_row
def shortZ (x:Ez):Bool:=decide (x.d.length≤60)&&decide (x.i.length≤60)
def shortL (L:List Ez) (m:Int):Bool:=decide ((L.length:Int)≤m)&&L.all shortZ
theorem shortL_yes {L:List Ez} {m:Int} (h1:(L.length:Int)≤m) (h2:∀x∈L,shortZ x=true):shortL L m=true:=by
  unfold shortL
  simp only[Bool.and_eq_true,decide_eq_true_eq,List.all_eq_true]
  exact⟨h1,h2⟩
theorem shortL_no {L:List Ez} {m:Int} {k:Nat} {x:Ez} (h1:L[k]? = some x) (h2:shortZ x=false):shortL L m=false:=by
  unfold shortL
  rw[Bool.and_eq_false_iff]
  refine .inr ?_
  rw[List.all_eq_false]
  exact⟨x,List.mem_of_getElem? h1,by simp[h2]⟩
theorem shortL_out {L:List Ez} {m:Int} (h:shortL L m=true):(L.length:Int)≤m∧∀x∈L,shortZ x=true:=by
  unfold shortL at h
  simpa using h
theorem DocP.next {w w':World} {g:Nat} {l:List UInt8} (h:DocP w g l) (hb:Below w.heap.size w w'):DocP w' g l:=by
  obtain⟨xs,lv,pv,h1,h2,h3⟩:=h
  exact⟨xs,lv,pv,h1,h2.below hb,h3.next hb⟩
theorem ez_at {w:World} {B n c:Nat} {A:Option Addr} {L:List Ez} (h:Rd w B 3 (.slice A n c) n (ezcs L)) {k:Nat} {x:Ez} (hk:L[k]? = some x) (hn:n=L.length) :
    ∃g o,A=some ⟨g,o,none⟩∧g<B∧w.cell? ⟨g,o+k*3,none⟩=some (.int .i64 x.a)∧w.cell? ⟨g,o+k*3+1,none⟩=some (.string ⟨x.d.toArray⟩)∧w.cell? ⟨g,o+k*3+2,none⟩=some (.string ⟨x.i.toArray⟩):=by
  obtain⟨g,o,h1,h2,h3⟩:=rd_sat ezc_len h hk hn
  exact⟨g,o,h1,h2,h3 0 _ rfl,h3 1 _ rfl,h3 2 _ rfl⟩
theorem ez_at' {w:World} {B n c g o:Nat} {L:List Ez} (h:Rd w B 3 (.slice (some ⟨g,o,none⟩) n c) n (ezcs L)) {k:Nat} {x:Ez} (hk:L[k]? = some x) (hn:n=L.length:=by rfl) :
    w.cell? ⟨g,o+k*3,none⟩=some (.int .i64 x.a)∧w.cell? ⟨g,o+k*3+1,none⟩=some (.string ⟨x.d.toArray⟩)∧w.cell? ⟨g,o+k*3+2,none⟩=some (.string ⟨x.i.toArray⟩):=by
  obtain⟨_,_,h1,_,h2⟩:=ez_at h hk hn
  cases h1
  exact h2
set_option maxHeartbeats 2000000 in
theorem short10_m (L:List Ez) (A:Option Addr) (c:Nat) (m:Int) (w:World) (hm:L.length≤9223372036854775807) (h:Rd w w.heap.size 3 (.slice A L.length c) L.length (ezcs L)) :
    Calls Tryz.prog 17 #[.slice A L.length c,.int .i64 m] w fun e w'=>e=.returned (.bool (shortL L m))∧Below w.heap.size w w':=by
  have H0:=Lib.hid h
  clear h
  go_enter Tryz.func17,Tryz.ntmps17
  by_cases hlm:m<(L.length:Int)
  ·go_wp2
   go_ret
   exact⟨by unfold shortL;rw[decide_eq_false (by omega)];rfl,Below.refl _ _⟩
  ·have hlm2:=Lib.hid hlm
   go_wp2
   go_loopw [5] (fun i wr=>∃k:Nat,k≤L.length∧i=.int .i64 k∧Below w.heap.size w wr∧∀x∈L.take k,shortZ x=true) (fun i _=>L.length-(intOf i).toNat)
   case atStart=>exact⟨0,Nat.zero_le _,rfl,Below.refl _ _,fun x hx=>by simp at hx⟩
   case round=>
     obtain⟨k,hk,rfl,hb,hI⟩:=hrel
     by_cases hlt:k<L.length
     ·have u1:(k:Int)<(L.length:Int):=by omega
      have u2:(0:Int)≤(k:Int):=by omega
      obtain⟨x,hx⟩:∃x,L[k]? = some x:=⟨_,List.getElem?_eq_getElem hlt⟩
      obtain⟨g,o,rfl,_,y0,y1,y2⟩:=ez_at (H0.out.keep hb (Nat.le_refl _)) hx rfl
      have HX:=Lib.hid (And.intro hb (And.intro hI hx))
      clear hb hI hx
      by_cases hd:(60:Int)<(x.d.length:Int)
      ·go_wp2
       go_ret
       exact⟨by rw[shortL_no HX.out.2.2 (by unfold shortZ;rw[decide_eq_false (by omega)];rfl)];rfl,HX.out.1⟩
      ·by_cases hi:(60:Int)<(x.i.length:Int)
       ·go_wp2
        go_ret
        exact⟨by rw[shortL_no HX.out.2.2 (by unfold shortZ;rw[decide_eq_false (p:=x.i.length≤60) (by omega),Bool.and_false])];rfl,HX.out.1⟩
       ·go_wp2
        refine⟨⟨k+1,by omega,by go_num,HX.out.1,fun y hy=>?_⟩,by simp[intOf]<;>omega⟩
        rw[List.take_add_one,HX.out.2.2] at hy
        rcases List.mem_append.1 hy with hy|hy
        ·exact HX.out.2.1 y hy
        ·obtain rfl:y=x:=by simpa using hy
         unfold shortZ
         simp only[Bool.and_eq_true,decide_eq_true_eq]
         omega
     ·obtain rfl:k=L.length:=by omega
      have HX:=Lib.hid (And.intro hb hI)
      clear hb hI
      go_wp2
      go_ret
      exact⟨by rw[shortL_yes (by have:=hlm2.out;omega) (fun x hx=>HX.out.2 x (by rw[List.take_length];exact hx))];rfl,HX.out.1⟩
def edT (l:List UInt8) (x:Ez):List UInt8:=if okE l x.d x.a=true then newL l x.d x.i x.a else l
theorem apply_m (g:Nat) (l:List UInt8) (x:Ez) (w:World) (hD:DocP w g l) (hl:l.length+60≤900) (hs:shortZ x=true) :
    Calls Tryz.prog 13 #[.pointer (some ⟨g,0,none⟩),.agg #[.int .i64 x.a,.string ⟨x.d.toArray⟩,.string ⟨x.i.toArray⟩]] w fun e w'=>∃h t:Int,e=.returned (.tuple #[.agg #[.int .i64 h,.int .i64 t],.int .i64 (if okE l x.d x.a=true then 0 else 1)]) ∧
      (okE l x.d x.a=false→h=0∧t=0)∧(okE l x.d x.a=true→∃(ed:Ed) (T:Nat),ed.old=l∧ed.new=edT l x∧(ed.a.length:Int)=x.a∧ed.d=x.d∧ed.i=x.i∧TailP ed T∧h=(hdN ed.old ed.a.length:Int)∧t=(T:Int))∧DocP w' g (edT l x)∧(edT l x).length≤l.length+60∧w.grownBy w' (some g):=by
  obtain⟨a,d,i,ha⟩:=x
  unfold shortZ at hs
  simp only[Bool.and_eq_true,decide_eq_true_eq] at hs
  replace ha : -9223372036854775808≤a∧a≤9223372036854775807:=ha
  unfold edT
  show Calls _ _ #[_,edv a d i] w _
  by_cases hok:okE l d a=true
  ·obtain⟨ed,e1,e2,e3,e4,e5⟩:=okE_ed hok i
   have hln:(newL l d i a).length≤l.length+60:=by
     rw[←e2,←e1]
     unfold Ed.new Ed.old
     rw[e4,e5]
     simp only[List.length_append]
     omega
   have h:=apply_ok g ed w (by rw[e1];exact hD) (by rw[e1];omega) (by rw[e2];omega) (by rw[e1,e4,e3];exact hok) (by rw[e1,e4,e5,e3,e2])
   rw[e3,e4,e5] at h
   refine h.mono ?_
   rintro e w' ⟨T,hT,rfl,hD',hg⟩
   rw[e2] at hD'
   simp only[hok,if_true]
   exact⟨_,_,rfl,(fun h=>by cases h),fun _=>⟨ed,T,e1,e2,e3,e4,e5,hT,rfl,rfl⟩,hD',hln,hg⟩
  ·have hok:okE l d a=false:=by simpa using hok
   obtain⟨xs,lv,pv,hpr,hD1,hr⟩:=hD
   refine(apply_bad g l d i a _ xs lv pv w hD1 (by omega) (by omega) (by omega) ha hok).mono ?_
   rintro e w' ⟨rfl,hb⟩
   simp only[hok,if_false,Bool.false_eq_true]
   exact⟨0,0,rfl,fun _=>⟨rfl,rfl⟩,(fun h=>by cases h),⟨xs,lv,pv,hpr,hD1.below hb,hr.next hb⟩,by omega,⟨hb.1,hb.2,hb.3,hb.size,fun k hk _=>hb.block k hk⟩⟩
def ed0:Ed:=⟨[97,32],[98],[98,98],[32,99]⟩
theorem ed0_tail {T:Nat} (h:TailP ed0 T):T=2:=by
  refine tail_uniq h ⟨.inr ⟨3,3,⟨(⟨1,3,4,false⟩,lx0),(⟨1,4,5,false⟩,lx0),by kernel_rfl,by kernel_rfl,Nat.le_refl _,rfl,rfl⟩,fun i' j' hm=>?_,by kernel_rfl⟩⟩
  obtain⟨p,q,h1,_,h3,_⟩:=hm.w
  replace h3:3≤p.1.fr:=h3
  have e0:(plcs ed0.old)[0]? = some (⟨6,0,1,false⟩,lx0):=by kernel_rfl
  have e1:(plcs ed0.old)[1]? = some (⟨1,1,2,false⟩,lx0):=by kernel_rfl
  have e2:(plcs ed0.old)[2]? = some (⟨6,2,3,false⟩,lx0):=by kernel_rfl
  refine Nat.le_of_not_lt fun hi=>?_
  have h4:i'=0∨i'=1∨i'=2:=by omega
  rcases h4 with rfl|rfl|rfl
  ·rw[e0] at h1;injection h1 with h1;subst h1;exact absurd h3 (by decide)
  ·rw[e1] at h1;injection h1 with h1;subst h1;exact absurd h3 (by decide)
  ·rw[e2] at h1;injection h1 with h1;subst h1;exact absurd h3 (by decide)
set_option maxHeartbeats 4000000 in
theorem awake10_c (w:World):Calls Tryz.prog 9 #[] w fun e w'=>e=.returned (.bool true)∧Below w.heap.size w w':=by
  have hA:∀g W,DocP W g [97,32,98,32,99]→Calls Tryz.prog 13 #[.pointer (some ⟨g,0,none⟩),.agg #[.int .i64 2,.string ⟨#[98]⟩,.string ⟨#[98,98]⟩]] W fun e w'=>e=.returned (.tuple #[.agg #[.int .i64 0,.int .i64 2],.int .i64 0])∧(∃xs lv pv X,xs.length=5∧DocR w' g ed0.new X xs lv pv∧Rt w' 71 7 lv xs.length (pvs xs))∧W.grownBy w' (some g):=by
    intro g W hD
    refine(apply_ok g ed0 W hD (by decide) (by decide) (by decide) (by decide)).mono ?_
    rintro e w' ⟨T,hT,rfl,⟨xs,lv,pv,h1,h2,h3⟩,hg⟩
    obtain rfl:=ed0_tail hT
    have hl:(plcs ed0.new).length=5:=by kernel_rfl
    have h0:hdN ed0.old ed0.a.length=0:=by kernel_rfl
    rw[h0]
    exact⟨rfl,⟨xs,lv,pv,_,by rw[(prx_len h1).1,hl],h2,h3⟩,hg⟩
  have HM:=Lib.hid hA
  clear hA
  go_enter Tryz.func9,Tryz.ntmps9
  go_wp2_with (first
    | (go_at_call 11
       refine(new10_m [97,32,98,32,99] _ (by decide)).mono ?_
       rintro e w1 ⟨g,rfl,hg,hD,hb⟩
       have H:=Lib.hid (And.intro hD (And.intro hb hg))
       clear hg hD hb)
    | (go_at_call 13
       with_reducible refine(HM.out g _ H.out.1).mono ?_
       rintro e w2 ⟨rfl,⟨xs,lv,pv,X,hx,hD,hr⟩,hg⟩
       have H2:=Lib.hid (And.intro hD (And.intro hr (And.intro hx (Below.grown H.out.2.1 hg H.out.2.1.size (fun k hk=>by injection hk with hk;have:=H.out.2.2;omega)))))
       clear hD hr hg hx)
    | (go_at_call 12
       with_reducible refine(tokens_m g ed0.new X xs lv pv _ (H2.out.1.below ((Below.refl _ _).alloc (Nat.le_refl _) _)) (H2.out.2.1.next ((Below.refl _ _).alloc (Nat.le_refl _) _)) (by have:=H2.out.2.2.1;omega)).mono ?_
       rintro e w3 ⟨v,rfl,ho,hb⟩
       obtain⟨A,n,c,rfl⟩:=own_form' ho
       obtain rfl:=own_len ho
       have hx5:=H2.out.2.2.1
       have u5:((xs.length:Nat):Int)=5:=by omega
       have H3:=Lib.hid hb
       clear ho hb hx5))
  go_ret
  refine⟨?_,?_⟩
  ·rfl
  ·have h:=H2.out.2.2.2
   have h2:=h.alloc h.size (.cells #[.int .i64 0,.int .i64 2] 33)
   exact h2.trans (H3.out.mono h2.size)
end Go.Proofs.YtclllfmbldeneaaGreatDoor
namespace Go.Proofs.YtclllfmbldeneaaGreatDoor
open Go.RowKit Go.ChangeShapes Go.WideShapes Go.Deep
set_option linter.unusedVariables false
set_option maxRecDepth 100000
theorem stays_arg {H:Type} {enc:TypeId×Value→H} {P:Program} {t:TypeId} (hl:laidOutB P=true) (hr:P.readableRec t=true) (hrow:t<P.types.size) {W W':World} {sp':Nat→Bool} {v:Value} {d:DataW H} {ps:List MemPlace}
    (h:DataW.Trod enc P W 0 (fun _=>true) true t v d ps) (hb:Below W.heap.size W W') (hlt:∀x∈ps,x.block<W.heap.size) (hs:∀x∈ps,sp' x.block=true):DataW.Trod enc P W' 0 sp' true t v d ps:=
  WideElems.Trod_stays hl hr hrow h (fun x hx=>hb.same (hlt x hx)) hs
end Go.Proofs.YtclllfmbldeneaaGreatDoor
