/- Motion: the first stop behind a place, the last one ahead of it; quillwortref29.In, Forward, Back; motion.Around. -/
import Derived.Test.YtcagfamdoaoimaaGreatDoorZs29
set_option linter.unusedVariables false
set_option linter.unusedSimpArgs false
set_option maxRecDepth 100000
set_option maxHeartbeats 8000000
namespace Go.Proofs.YtcagfamdoaoimaaGreatDoor
section
open Go.RowKit
attribute [local go_sem] Oper.semAt_some
theorem JJ {S:List Int} (hp:S.Pairwise (· < ·)) {n a y:Int} (hy:y∈S) (ha:a<y) (hno:∀x∈S,a<x→y≤x):pE S n a=y:=by
  unfold pE
  cases h:S.find? (fun x=>decide (a<x)) with
  | none=>exact absurd (aG ha) (cW.1 h y hy)
  | some z=>
    obtain⟨h1,as1,bs,rfl,h2⟩:=List.find?_eq_some_iff_append.1 h;have h3:=hno z (by simp) (cU h1);have h4:=cP.1 (dx.1 hp).2.1;rcases aZ.1 hy with h5|h5
    ·have:=h2 y h5;simp at this;omega
    ·rcases br.1 h5 with h6|h6
     ·exact h6.symm
     ·have:=h4.1 y h6;omega
theorem Dw {S:List Int} {n a:Int} (h:∀x∈S,¬a<x):pE S n a=n:=by
  unfold pE;rw[cW.2 (fun x hx=>by simpa using h x hx)]
theorem CK {S:List Int} (hp:S.Pairwise (· < ·)) {a y:Int} (hy:y∈S) (ha:y<a) (hno:∀x∈S,x<a→x≤y):sJ S a=y:=by
  obtain⟨as1,bs,rfl⟩:=List.append_of_mem hy;have h4:=dx.1 hp;have h5:=cP.1 h4.2.1;unfold sJ;rw[List.takeWhile_append_of_pos (fun x hx=>by have:=h4.2.2 x hx y (by simp);simp;omega),cS,aD (aG ha)];have e:bs.takeWhile (fun x=>decide (x<a))=[]:=by
    cases bs with
    | nil=>rfl
    | cons b s=>
      rw[cS,aB];intro h;have h1:=hno b (by simp) (cU h);have h2:=h5.1 b (by simp);omega
  rw[e];simp
theorem DV {S:List Int} {a:Int} (h:∀x∈S,¬x<a):sJ S a=0:=by
  unfold sJ
  cases S with
  | nil=>rfl
  | cons b s=>rw[cS,aB (by simpa using h b (by simp))];rfl
theorem Bl (n:Nat) (a:Int):∃m:Nat,sj (n:Int) a=(m:Int)∧m≤n:=⟨(sj (n:Int) a).toNat,by unfold sj;omega,by unfold sj;omega⟩
theorem EO (l:List UInt8) (hl:l.length≤900) (a:Int) (w:World) :
    vZ 28 #[.string ⟨l.toArray⟩,.int .i64 a] w (.int .i64 (sj (l.length:Int) a)):=by
  unfold sj;by_cases h1:a<0
  ·rw[show min (max a 0) (l.length:Int)=0 by omega];have t1:decide (a<0)=true:=by simpa using h1
   go_enter Tryz.func28,Tryz.ntmps28;go_wp2_with fail;go_ret;exact⟨rfl,rfl⟩
  ·have t1:decide (a<0)=false:=by simpa using h1
   by_cases h2:(l.length:Int)<a
   ·rw[show min (max a 0) (l.length:Int)=(l.length:Int) by omega];have t2:decide ((l.length:Int)<a)=true:=by simpa using h2
    go_enter Tryz.func28,Tryz.ntmps28;go_wp2_with fail;go_ret;exact⟨rfl,rfl⟩
   ·rw[show min (max a 0) (l.length:Int)=a by omega];have t2:decide ((l.length:Int)<a)=false:=by simpa using h2
    go_enter Tryz.func28,Tryz.ntmps28;go_wp2_with fail;go_ret;exact⟨rfl,rfl⟩
theorem Ld (l:List UInt8) (hl:l.length≤900) (a k:Int) (w:World) :
    jL 25 #[.string ⟨l.toArray⟩,.int .i64 a,.int .i64 k] w (.int .i64 (pE (xC l k) (l.length:Int) (sj (l.length:Int) a))):=by
  have c1:=fun W=>EO l hl a W
  have c2:=fun p W hp=>sN l p k W hl hp
  obtain⟨s1,s2,s3,s4⟩:=wu l k hl;obtain⟨m,hm,hmn⟩:=Bl l.length a;rw[hm] at c1 ⊢;generalize xC l k=S at *;have H:=aa (ac c1 (ac c2 (ac s1 s2)));have v1:IntKind.i64.wrap ((m:Int)+1)=((m+1:Nat):Int):=aS _ (by omega);clear c1 c2 s1 s2 s3 s4 hm;go_enter Tryz.func25,Tryz.ntmps25;go_wp2_with (
    (go_at_call 28;refine(H.out.1 _).mono ?_;rintro e w2 ⟨rfl,rfl⟩))
  go_loopw [7] (fun i wr=>∃q:Nat,q≤l.length+1∧m+1≤q∧i=.int .i64 q∧(∀x∈S,(m:Int)<x→(q:Int)≤x)∧Below w2.heap.size w2 wr) (fun i _=>l.length+1-(intOf i).toNat)
  case atStart=>exact⟨m+1,by omega,au _,rfl,fun x _ h=>by omega,aC _ _⟩
  case round=>
    obtain⟨q,hq,hq1,rfl,hno,hb⟩:=hrel;by_cases hlt:q≤l.length
    ·have u1:decide ((q:Int)≤(l.length:Int))=true:=by simp;omega
     have cr:=H.out.2.1 q wr hlt;by_cases hin:(q:Int)∈S
     ·rw[aG hin] at cr;have e:=JJ (n:=(l.length:Int)) H.out.2.2.1 hin (by omega) hno;have HC:=aa (ac cr (ac e hb));clear cr hno hb hin e
      go_wp2_with (first
        | (go_at_call 20;with_reducible refine(HC.out.1).mono ?_
           rintro e w5 ⟨rfl,hb5⟩;have H5:=aa (HC.out.2.2.trans (hb5.mono HC.out.2.2.size));clear hb5)
        | fail)
      go_ret;exact⟨by rw[HC.out.2.1];rfl,H5.out⟩
     ·rw[aL hin] at cr;have g:∀x∈S,(m:Int)<x→((q+1:Nat):Int)≤x:=fun x hx h=>by
        have h1:=hno x hx h;have h2:x≠(q:Int):=fun e=>hin (e▸hx)
        omega
      have HC:=aa (ac cr (ac g hb));clear cr hno hb hin g
      go_wp2_with (first
        | (go_at_call 20;with_reducible refine(HC.out.1).mono ?_
           rintro e w5 ⟨rfl,hb5⟩;have H5:=aa (HC.out.2.2.trans (hb5.mono HC.out.2.2.size));clear hb5)
        | fail)
      exact⟨⟨q+1,by omega,by omega,by go_num,HC.out.2.1,H5.out⟩,by simp[intOf];omega⟩
    ·have u1:decide ((q:Int)≤(l.length:Int))=false:=by simp;omega
     have e:pE S (l.length:Int) (m:Int)=(l.length:Int):=Dw fun x hx h=>by
       have h1:=hno x hx h;have h2:=(H.out.2.2.2 x hx).2;omega
     have HE:=aa (ac e hb);clear e hno hb;go_wp2_with fail;go_ret;exact⟨by rw[HE.out.1];rfl,HE.out.2⟩
theorem Li (l:List UInt8) (hl:l.length≤900) (a k:Int) (w:World) :
    jL 26 #[.string ⟨l.toArray⟩,.int .i64 a,.int .i64 k] w (.int .i64 (sJ (xC l k) (sj (l.length:Int) a))):=by
  have c1:=fun W=>EO l hl a W
  have c2:=fun p W hp=>sN l p k W hl hp
  obtain⟨s1,s2,s3,s4⟩:=wu l k hl;obtain⟨m,hm,hmn⟩:=Bl l.length a;rw[hm] at c1 ⊢;generalize xC l k=S at *;have H:=aa (ac c1 (ac c2 (ac s1 (ac s2 s3))));have v1:IntKind.i64.wrap ((m:Int)-1)=(m:Int)-1:=aS _ (by omega);clear c1 c2 s1 s2 s3 s4 hm;go_enter Tryz.func26,Tryz.ntmps26;go_wp2_with (
    (go_at_call 28;refine(H.out.1 _).mono ?_;rintro e w2 ⟨rfl,rfl⟩))
  go_loopw [7] (fun i wr=>∃q:Int, -1≤q∧q+1≤(m:Int)∧i=.int .i64 q∧(∀x∈S,x<(m:Int)→x≤q)∧Below w2.heap.size w2 wr) (fun i _=>(intOf i).toNat)
  case atStart=>exact⟨(m:Int)-1,by omega,by omega,rfl,fun x _ h=>by omega,aC _ _⟩
  case round=>
    obtain⟨z,hz,hz1,rfl,hno,hb⟩:=hrel;by_cases hlt:0<z
    ·obtain⟨q,rfl⟩:∃q:Nat,z=(q:Int):=⟨z.toNat,by omega⟩;have u1:decide (0<(q:Int))=true:=by simp;omega
     have v2:IntKind.i64.wrap ((q:Int)-1)=(q:Int)-1:=aS _ (by omega);have cr:=H.out.2.1 q wr (by omega);by_cases hin:(q:Int)∈S
     ·rw[aG hin] at cr;have e:=CK H.out.2.2.1 hin (by omega) hno;have HC:=aa (ac cr (ac e hb));clear cr hno hb hin e
      go_wp2_with (first
        | (go_at_call 20;with_reducible refine(HC.out.1).mono ?_
           rintro e w5 ⟨rfl,hb5⟩;have H5:=aa (HC.out.2.2.trans (hb5.mono HC.out.2.2.size));clear hb5)
        | fail)
      go_ret;exact⟨by rw[HC.out.2.1];rfl,H5.out⟩
     ·rw[aL hin] at cr;have g:∀x∈S,x<(m:Int)→x≤(q:Int)-1:=fun x hx h=>by
        have h1:=hno x hx h;have h2:x≠(q:Int):=fun e=>hin (e▸hx)
        omega
      have HC:=aa (ac cr (ac g hb));clear cr hno hb hin g
      go_wp2_with (first
        | (go_at_call 20;with_reducible refine(HC.out.1).mono ?_
           rintro e w5 ⟨rfl,hb5⟩;have H5:=aa (HC.out.2.2.trans (hb5.mono HC.out.2.2.size));clear hb5)
        | fail)
      exact⟨⟨(q:Int)-1,by omega,by omega,rfl,HC.out.2.1,H5.out⟩,by simp[intOf];omega⟩
    ·have u1:decide (0<z)=false:=by simp;omega
     have e:sJ S (m:Int)=0:=by
       rcases Nat.eq_zero_or_pos m with h0|h0
       ·exact DV fun x hx h=>by have:=(H.out.2.2.2.1 x hx).1;omega
       ·exact CK H.out.2.2.1 H.out.2.2.2.2 (by omega) fun x hx h=>by have:=hno x hx h;omega
     have HE:=aa (ac e hb);clear e hno hb;go_wp2_with fail;go_ret;exact⟨by rw[HE.out.1];rfl,HE.out.2⟩
theorem Gm (n:Nat) (a:Int):sj (n:Int) (sj (n:Int) a)=sj (n:Int) a:=by unfold sj;omega
theorem Bv (S:List Int) (hS:S.length≤60000) (x:Int) (g c B:Nat) (w:World) (ho:w.ownsRow B 3 1 (.slice (some ⟨g,0,none⟩) S.length c) S.length (pM S)) :
    vZ 54 #[.slice (some ⟨g,0,none⟩) S.length c,.int .i64 x] w (.bool (decide (x∈S))):=by
  have HO:=aa ho;clear ho;have key:Calls Tryz.prog 96 #[.slice (some ⟨g,0,none⟩) S.length c,.int .i64 x] w fun e w'=>(∃z:Int,e=.returned (.int .i64 z)∧(x∈S→0≤z)∧(x∉S→z = -1))∧w'=w:=by
    go_enter Tryz.func96,Tryz.ntmps96;go_wp2_with fail;go_loopw [8] (fun i wr=>∃q:Nat,q≤S.length∧i=.int .i64 q∧x∉S.take q∧wr=w) (fun i _=>S.length-(intOf i).toNat)
    case atStart=>exact⟨0,bv _,rfl,by simp,rfl⟩
    case round=>
      obtain⟨q,hq,rfl,hno,hw⟩:=hrel;obtain rfl:=hw.symm;by_cases hlt:q<S.length
      ·obtain⟨y,hy⟩:∃y,S[q]? = some y:=⟨_,ax hlt⟩;have c0:=dW HO.out _ _ (l6 hy);have u1:(q:Int)<(S.length:Int):=by omega
       have u2:(0:Int)≤(q:Int):=by omega
       have ht:S.take (q+1)=S.take q++[y]:=by rw[List.take_add_one,hy];rfl
       have hm:=aO hy;by_cases e:x=y
       ·subst e;have HM:=aa hm;clear hm hno ht hy;go_wp2_with fail;go_ret;exact⟨⟨_,rfl,fun _=>by omega,fun h=>absurd HM.out h⟩,rfl⟩
       ·have t1:(x==y)=false:=aJ e;have HN:Hid (x∉S.take (q+1)):=aa (by rw[ht];simp[hno,e]);clear hm hno ht hy e;go_wp2_with fail;exact⟨⟨q+1,by omega,by go_num,HN.out,trivial⟩,by simp[intOf];omega⟩
      ·obtain rfl:q=S.length:=by omega
       rw[dy] at hno;have HN:=aa hno;clear hno;go_wp2_with fail;go_ret;exact⟨⟨-1,rfl,fun h=>absurd h HN.out,fun _=>rfl⟩,rfl⟩
  have HK:=aa key;clear key;by_cases hin:x∈S;all_goals (
    first|rw[aG hin]|rw[aL hin]
    have HI:=aa hin;clear hin;go_enter Tryz.func54,Tryz.ntmps54;go_wp2_with (
      (go_at_call 96;with_reducible refine HK.out.mono ?_
       rintro e w2 ⟨⟨z,rfl,h1,h2⟩,rfl⟩
       first
         | (replace h1:=h1 HI.out;clear h2)
         | (obtain rfl:=h2 HI.out;clear h1)))
    go_ret;refine⟨?_,rfl⟩
    first
      | rfl
      | (rw[aG (by omega)])
      | (simp;omega))
theorem Hv (l:List UInt8) (hl:l.length≤900) (a k:Int) (w:World) :
    jL 27 #[.string ⟨l.toArray⟩,.int .i64 a,.int .i64 k] w (.tuple #[.int .i64 (if sj (l.length:Int) a∈xC l k then sj (l.length:Int) a else sJ (xC l k) (sj (l.length:Int) a)),.int .i64 (pE (xC l k) (l.length:Int) (sj (l.length:Int) a))]):=by
  have hok:=pR l k hl;have c1:=fun W=>tq l a W
  have c2:=fun W=>tp l k hok.c hok.b hok.n hok.l W
  have c4:=fun W=>Ih l (sj (l.length:Int) a) k hok W
  have c5:=fun W=>rV l (sj (l.length:Int) a) k hok W
  rw[Gm] at c4 c5;have hlen:=hok.len;have hp:0<(gU (jy l k) (l.length:Int)).length:=List.length_pos_of_mem (wu l k hl).2.2.1;unfold xC;generalize gU (jy l k) (l.length:Int)=S at *;generalize sj (l.length:Int) a=m at *;have c3:=fun g c B W ho=>Bv S hlen m g c B W ho
  obtain⟨b,hb⟩:∃b,b=decide (m∈S):=⟨_,rfl⟩;rw[←hb] at c3;have hif:(if m∈S then m else sJ S m)=if b=true then m else sJ S m:=by rw[hb];simp
  rw[hif];have H:=aa (ac c1 (ac c2 (ac c3 (ac c4 c5))));clear c1 c2 c3 c4 c5 hif hb hok
  cases b
  case' false=>rw[aB Bool.false_ne_true]
  case' true=>rw[aD rfl]
  all_goals (
    go_enter Tryz.func27,Tryz.ntmps27
    go_wp2_with (first
      | (go_at_call 53;with_reducible refine(H.out.1 _).mono ?_
         rintro e w2 ⟨rfl,rfl⟩)
      | (go_at_call 19;with_reducible refine(H.out.2.1 _).mono ?_
         rintro e w3 ⟨v3,rfl,ho,hb3⟩;obtain⟨A3,n3,c3,rfl⟩:=dR ho;obtain rfl:=ei ho;obtain⟨g,rfl⟩:=jb ho hp;have H3:=aa (ac ho hb3);clear ho hb3)
      | (go_at_call 54;with_reducible refine(H.out.2.2.1 _ _ _ _ H3.out.1).mono ?_
         rintro e w4 ⟨rfl,rfl⟩)
      | (go_at_call 24;with_reducible refine(H.out.2.2.2.1 _).mono ?_
         rintro e w5 ⟨rfl,hb5⟩;have H5:=aa (H3.out.2.trans (hb5.mono H3.out.2.size));clear hb5)
      | (go_at_call 23;with_reducible refine(H.out.2.2.2.2 _).mono ?_
         rintro e w6 ⟨rfl,hb6⟩
         first
           | (have H6:=aa (H5.out.trans (hb6.mono H5.out.size)))
           | (have H6:=aa (H3.out.2.trans (hb6.mono H3.out.2.size)))
         clear hb6)
      | fail)
    go_ret2;exact⟨rfl,H6.out⟩)
end
end Go.Proofs.YtcagfamdoaoimaaGreatDoor
