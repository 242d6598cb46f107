/- quillwortref10.Kept: how many tokens an edit keeps. -/
import Derived.Test.YtnclfgkpcpcapaaGreatDoorRa10
import Derived.BigQuiet
namespace Go.Proofs.YtnclfgkpcpcapaaGreatDoor
open Go.RowKit
set_option linter.unusedVariables false
set_option linter.unusedSimpArgs false
set_option maxRecDepth 100000
structure TlM (e:Ed) (m T:Nat):Prop where
  w:(T=0∧∀i j,i<m→¬Mt e i j)∨∃i j,i<m∧Mt e i j∧(∀i' j',i'<m→Mt e i' j'→i≤i')∧T=(plcs e.old).length-i
structure TlJ (e:Ed) (i n T:Nat):Prop where
  w:(T=0∧(∀i' j,i'<i→¬Mt e i' j)∧∀j,j<n→¬Mt e i j)∨(0<T∧TlM e (i+1) T)
theorem TlM.zero (e:Ed):TlM e 0 0:=⟨.inl ⟨rfl,fun i j h=>by omega⟩⟩
theorem Mt.lt {e:Ed} {i j:Nat} (h:Mt e i j):i<(plcs e.old).length∧j<(plcs e.new).length:=by
  obtain⟨p,q,h1,h2,_⟩:=h.w
  exact⟨(List.getElem?_eq_some_iff.1 h1).1,(List.getElem?_eq_some_iff.1 h2).1⟩
theorem TlM.begin {e:Ed} {i T:Nat} (h:TlM e i T):TlJ e i 0 T:=by
  rcases h.w with ⟨rfl,h1⟩|⟨i0,j0,h0,h1,h2,rfl⟩
  ·exact⟨.inl ⟨rfl,fun i' j hi=>h1 i' j hi,fun j hj=>by omega⟩⟩
  ·have:=h1.lt
   refine⟨.inr ⟨by omega,⟨.inr ⟨i0,j0,by omega,h1,fun i' j' hi hm=>?_,rfl⟩⟩⟩⟩
   rcases Nat.lt_or_ge i' i with h3|h3
   ·exact h2 i' j' h3 hm
   ·omega
theorem TlJ.done {e:Ed} {i n T:Nat} (h:TlJ e i n T) (hn:(plcs e.new).length≤n):TlM e (i+1) T:=by
  rcases h.w with ⟨rfl,h1,h2⟩|⟨_,h1⟩
  ·refine⟨.inl ⟨rfl,fun i' j hi hm=>?_⟩⟩
   have:=hm.lt
   rcases Nat.lt_or_ge i' i with h3|h3
   ·exact h1 i' j h3 hm
   ·obtain rfl:i'=i:=by omega
    exact h2 j (by omega) hm
  ·exact h1
theorem TlJ.skip {e:Ed} {i n T:Nat} (h:TlJ e i n T) (hn:T=0→¬Mt e i n):TlJ e i (n+1) T:=by
  rcases h.w with ⟨rfl,h1,h2⟩|h1
  ·refine⟨.inl ⟨rfl,h1,fun j hj hm=>?_⟩⟩
   rcases Nat.lt_or_ge j n with h3|h3
   ·exact h2 j h3 hm
   ·obtain rfl:j=n:=by omega
    exact hn rfl hm
  ·exact⟨.inr h1⟩
theorem TlJ.take {e:Ed} {i n:Nat} (h:TlJ e i n 0) (hm:Mt e i n):TlJ e i (n+1) ((plcs e.old).length-i):=by
  rcases h.w with ⟨_,h1,h2⟩|⟨h1,_⟩
  ·have:=hm.lt
   refine⟨.inr ⟨by omega,⟨.inr ⟨i,n,by omega,hm,fun i' j' hi hm'=>?_,rfl⟩⟩⟩⟩
   exact Nat.le_of_not_lt fun h3=>h1 i' j' h3 hm'
  ·omega
theorem TlM.tail {e:Ed} {T:Nat} (h:TlM e (plcs e.old).length T):TailP e T:=by
  rcases h.w with ⟨rfl,h1⟩|⟨i,j,h0,h1,h2,rfl⟩
  ·exact⟨.inl ⟨rfl,fun i j hm=>h1 i j hm.lt.1 hm⟩⟩
  ·exact⟨.inr ⟨i,j,h1,fun i' j' hm=>h2 i' j' hm.lt.1 hm,rfl⟩⟩
theorem mt_iff {ed:Ed} {m n:Nat} {p q:Tk×Lx} (h1:(plcs ed.old)[m]? = some p) (h2:(plcs ed.new)[n]? = some q):Mt ed m n↔(ed.a.length+ed.d.length≤p.1.fr∧(p.1.fr:Int)+(ed.new.length:Int)-(ed.old.length:Int)=(q.1.fr:Int)∧p.2=q.2):=by
  have e1:ed.old.length=ed.a.length+(ed.d.length+ed.c.length):=by unfold Ed.old;simp
  have e2:ed.new.length=ed.a.length+(ed.i.length+ed.c.length):=by unfold Ed.new;simp
  constructor
  ·intro h
   obtain⟨p',q',g1,g2,g3,g4,g5⟩:=h.w
   rw[h1] at g1
   rw[h2] at g2
   cases g1
   cases g2
   exact⟨g3,by omega,g5⟩
  ·rintro ⟨g3,g4,g5⟩
   exact⟨p,q,h1,h2,g3,by omega,g5⟩
theorem Bk.two {w:World} {g:Nat} {t:TypeId} {x0 x1:Value} (h:Bk w g t #[x0,x1]):w.cell? ⟨g,0,none⟩=some x0∧w.cell? ⟨g,1,none⟩=some x1∧w.frozen? ⟨g,0,none⟩=false∧w.frozen? ⟨g,1,none⟩=false:=⟨h.cell 0,h.cell 1,h.frozen 0,h.frozen 1⟩
structure KI (W5:World) (g:Nat) (h T:Int) (W:World):Prop where
  hg:W5.grownBy W (some g)
  bk:Bk W g 33 #[.int .i64 h,.int .i64 T]
theorem KI.rt {W5 W:World} {g:Nat} {h T:Int} (k:KI W5 g h T W) (h5:∃cs,Bk W5 g 33 cs) {e:TypeId} {sz n:Nat} {v:Value} {xs:List Value} (r:Rt W5 e sz v n xs) (he:e≠33):Rt W e sz v n xs:=by
  obtain⟨cs,h5⟩:=h5
  exact r.keep k.hg (fun k hk=>by injection hk with hk;subst hk;exact⟨_,_,_,h5,he⟩)
theorem KI.set0 {W5 W:World} {g:Nat} {h T:Int} (k:KI W5 g h T W) (u:Int):KI W5 g u T (W.setCell ⟨g,0,none⟩ (.int .i64 u)):=⟨grown_set k.hg 0 _,k.bk.set 0 _⟩
theorem KI.set1 {W5 W:World} {g:Nat} {h T:Int} (k:KI W5 g h T W) (u:Int):KI W5 g h u (W.setCell ⟨g,1,none⟩ (.int .i64 u)):=⟨grown_set k.hg 1 _,k.bk.set 1 _⟩
theorem KI.below {W5 W W':World} {g:Nat} {h T:Int} (k:KI W5 g h T W) (hb:Below W.heap.size W W'):KI W5 g h T W':=
  ⟨⟨hb.1.trans k.hg.1,hb.2.trans k.hg.2,hb.3.trans k.hg.3,Nat.le_trans k.hg.size hb.size,fun i hi hn=>(hb.block i (Nat.lt_of_lt_of_le hi k.hg.size)).trans (k.hg.block i hi hn)⟩,k.bk.below hb k.bk.lt⟩
theorem stF_pd' (l:List UInt8):∀k x X,X.pd.length≤x→(stF l k x X).2.pd.length≤(stF l k x X).1
  | 0,x,X,h=>h
  | k+1,x,X,h=>by
    unfold stF
    by_cases hx:x<l.length
    ·rw[if_pos hx]
     have h1:=stepL_to l x hx X
     have h2:=step_pd l x X
     exact stF_pd' l k _ _ (by omega)
    ·rw[if_neg hx];exact h
attribute [-go_sem] Builtin.append_
set_option maxHeartbeats 4000000 in
theorem rkept_m (ed:Ed) (w:World) (hl:ed.old.length≤900) (hl':ed.new.length≤900) :
    Calls Tryz.prog 10 #[.string ⟨ed.old.toArray⟩,.agg #[.int .i64 (ed.a.length:Int),.string ⟨ed.d.toArray⟩,.string ⟨ed.i.toArray⟩],.string ⟨ed.new.toArray⟩] w fun e w'=>∃T:Nat,TailP ed T∧e=.returned (.agg #[.int .i64 (hdN ed.old ed.a.length:Int),.int .i64 (T:Int)])∧Below w.heap.size w w':=by
  have lexc:∀l:List UInt8,l.length≤900→∀W,Calls Tryz.prog 20 #[.string ⟨l.toArray⟩] W fun e w'=>∃v1 v2,e=.returned (.tuple #[v1,v2])∧w'.ownsRow W.heap.size 40 4 v1 (lexL l).1.length (tkcs (lexL l).1)∧LxP w' (lexL l).2 v2∧Below W.heap.size W w':=fun l h W=>rlex_m l W h
  have lexm:∀l:List UInt8,(lexL l).1=(plcs l).map Prod.fst:=fun l=>plc_lex1 l 0 lx0
  have c1:=lexc ed.old hl
  have c2:=lexc ed.new hl'
  have c3:=fun W=>rahead_m ed.old W hl
  have c4:=fun W=>rahead_m ed.new W hl'
  obtain⟨a,ha⟩:∃a,a=(lexL ed.old).1:=⟨_,rfl⟩
  obtain⟨b,hb⟩:∃b,b=(lexL ed.new).1:=⟨_,rfl⟩
  have ham:a=(plcs ed.old).map Prod.fst:=ha.trans (lexm _)
  have hbm:b=(plcs ed.new).map Prod.fst:=hb.trans (lexm _)
  have hal:(plcs ed.old).length=a.length:=by rw[ham];simp
  have hbl:(plcs ed.new).length=b.length:=by rw[hbm];simp
  have ha9:a.length≤900:=by rw[ha];exact Nat.le_trans (lexL_len _) hl
  have hb9:b.length≤900:=by rw[hb];exact Nat.le_trans (lexL_len _) hl'
  rw[←ha] at c1
  rw[←hb] at c2
  rw[hal] at c3
  rw[hbl] at c4
  have HC:=Lib.hid (And.intro c1 (And.intro c2 (And.intro c3 c4)))
  have HM:=Lib.hid (And.intro ham (And.intro hbm (And.intro hal hbl)))
  clear c1 c2 c3 c4 ha hb ham hbm hal hbl lexc lexm
  obtain⟨K0,hK0⟩:∃K0,K0=hdN ed.old ed.a.length:=⟨_,rfl⟩
  have hKl:K0≤a.length:=by rw[hK0,←HM.out.2.2.1];exact hdN_le _ _
  have hKg:∀(i:Nat) (t:Tk),a[i]? = some t→(t.to+2≤ed.a.length↔i<K0):=fun i t ht=>by
    rw[HM.out.1,List.getElem?_map] at ht
    obtain⟨p,hp,rfl⟩:=Option.map_eq_some_iff.1 ht
    rw[hK0]
    exact hdN_get hp
  have hto:∀(i:Nat) (t:Tk),a[i]? = some t→t.to≤ed.old.length:=fun i t ht=>by
    rw[HM.out.1,List.getElem?_map] at ht
    obtain⟨p,hp,rfl⟩:=Option.map_eq_some_iff.1 ht
    exact(plc_mem ed.old 0 lx0 _ (List.mem_of_getElem? hp)).2.2
  have hal:ed.a.length≤900:=by
    have:ed.old.length=ed.a.length+(ed.d.length+ed.c.length):=by unfold Ed.old;simp
    omega
  rw[←hK0]
  have HG:=Lib.hid (And.intro hKg (And.intro hto hK0))
  clear hKg hto hK0
  go_enter Tryz.func10,Tryz.ntmps10
  go_upto_region 1 with fail
  refine gen2 fun W0 hb0 kE kR hs0=>?_
  have H0:=Lib.hid (And.intro hb0 (And.intro kE (And.intro kR hs0)))
  clear hb0 kE kR hs0
  go_upto_region 6 with (first
    | (go_at_call 20
       with_reducible refine(HC.out.1 _).mono ?_
       rintro e w1 ⟨v1,v2,rfl,ho,⟨v3,rfl,hr⟩,hb1⟩
       obtain⟨A0,d0,rfl⟩:=hr.form
       unfold lxv
       obtain⟨A1,n1,d1,rfl⟩:=own_form' ho
       obtain rfl:=own_len ho
       have H1:=Lib.hid (And.intro (Rt.of_own ho) hb1)
       clear ho hb1 hr)
    | (go_at_call 20
       with_reducible refine(HC.out.2.1 _).mono ?_
       rintro e w2 ⟨v1,v2,rfl,ho,⟨v3,rfl,hr⟩,hb2⟩
       obtain⟨B0,e0,rfl⟩:=hr.form
       unfold lxv
       obtain⟨B1,n2,e1,rfl⟩:=own_form' ho
       obtain rfl:=own_len ho
       have hb12:Below w1.heap.size w1 w2:=((Below.refl _ w1).alloc (Nat.le_refl _) _).trans (hb2.mono (by simp))
       have H2:=Lib.hid (And.intro (H1.out.1.next hb12) (And.intro (Rt.of_own ho) (H1.out.2.trans (hb12.mono H1.out.2.size))))
       clear ho hb2 hr hb12)
    | (go_at_call 21
       with_reducible refine(HC.out.2.2.1 _).mono ?_
       rintro e w3 ⟨v,qs,rfl,ho,hq1,hq2,hb3⟩
       obtain⟨A2,n3,d2,rfl⟩:=own_form' ho
       obtain rfl:=own_len ho
       have hb23:Below w2.heap.size w2 w3:=((Below.refl _ w2).alloc (Nat.le_refl _) _).trans (hb3.mono (by simp))
       have H3:=Lib.hid (And.intro (H2.out.1.next hb23) (And.intro (H2.out.2.1.next hb23) (And.intro (Rt.of_own ho) (And.intro hq1 (And.intro hq2 (H2.out.2.2.trans (hb23.mono H2.out.2.2.size)))))))
       clear ho hb3 hq1 hq2 hb23)
    | (go_at_call 21
       with_reducible refine(HC.out.2.2.2 _).mono ?_
       rintro e w4 ⟨v,ps,rfl,ho,hq1,hq2,hb4⟩
       obtain⟨B2,n4,e2,rfl⟩:=own_form' ho
       obtain rfl:=own_len ho
       have H4:=Lib.hid (And.intro (H3.out.1.next hb4) (And.intro (H3.out.2.1.next hb4) (And.intro (H3.out.2.2.1.next hb4) (And.intro H3.out.2.2.2.1 (And.intro (fun i q hq=>(⟨(H3.out.2.2.2.2.1 i q hq).1,(H3.out.2.2.2.2.1 i q hq).2.next hb4⟩:q.X=(stF ed.old i 0 lx0).2∧Rt w4 73 2 q.v q.X.pd.length (dcls q.X.pd))) (And.intro (Rt.of_own ho) (And.intro hq1 (And.intro hq2 (H3.out.2.2.2.2.2.trans (hb4.mono H3.out.2.2.2.2.2.size))))))))))
       clear ho hb4 hq1 hq2)
    | fail)
  refine gen1 fun W5 hb5 k5 hs5=>?_
  obtain⟨r1,r2,r3,l3,f3,r4,l4,f4,hbA⟩:=H4.out
  have hbB:=hbA.trans (hb5.mono hbA.size)
  have H5:=Lib.hid (And.intro (r1.next hb5) (And.intro (r2.next hb5) (And.intro (r3.next hb5) (And.intro l3 (And.intro (fun i q hq=>(⟨(f3 i q hq).1,(f3 i q hq).2.next hb5⟩:q.X=(stF ed.old i 0 lx0).2∧Rt W5 73 2 q.v q.X.pd.length (dcls q.X.pd))) (And.intro (r4.next hb5) (And.intro l4 (And.intro (fun i q hq=>(⟨(f4 i q hq).1,(f4 i q hq).2.next hb5⟩:q.X=(stF ed.new i 0 lx0).2∧Rt W5 73 2 q.v q.X.pd.length (dcls q.X.pd))) (And.intro (H0.out.2.1.below hbB H0.out.2.1.lt) (And.intro (H0.out.2.2.1.below hbB H0.out.2.2.1.lt) (And.intro k5 (H0.out.1.trans (hbB.mono H0.out.1.size)))))))))))))
  have hbk:w.heap.size+2≤w4.heap.size:=by have:=H0.out.2.2.2;have:=hbA.size;omega
  clear r1 r2 r3 l3 f3 r4 l4 f4 hbA hbB hb5 k5 hs5 H0 H1 H2 H3 H4 HC
  go_wp2
  go_loopw [14] (fun i wr=>∃m:Nat,m≤a.length∧i=.int .i64 m∧KI W5 w4.heap.size ((min m K0:Nat):Int) 0 wr) (fun i _=>a.length-(intOf i).toNat)
  case atStart=>exact⟨0,Nat.zero_le _,rfl,⟨grown_refl _ _,by rw[Nat.zero_min];exact H5.out.2.2.2.2.2.2.2.2.2.2.1⟩⟩
  case round=>
    obtain⟨m,hm,rfl,hk⟩:=hrel
    have h5k:∃cs,Bk W5 w4.heap.size 33 cs:=⟨_,H5.out.2.2.2.2.2.2.2.2.2.2.1⟩
    by_cases hlt:m<a.length
    ·have u1:(m:Int)<(a.length:Int):=by omega
     have u2:(0:Int)≤(m:Int):=by omega
     obtain⟨t,ht⟩:∃t,a[m]? = some t:=⟨_,List.getElem?_eq_getElem hlt⟩
     have hgt:=HG.out.1 m t ht
     have htl:=HG.out.2.1 m t ht
     obtain⟨g,o,rfl,_,hc⟩:=rd_sat tkc_len1 (hk.rt h5k H5.out.1 (by decide)).rd ht rfl
     have y2:wr.cell? ⟨g,o+m*4+2,none⟩=some (.int .i64 (t.to:Int)):=hc 2 _ rfl
     have hbe:=H5.out.2.2.2.2.2.2.2.2.1.grown hk.hg (fun e=>by injection e with e;omega)
     have y3:wr.cell? ⟨w.heap.size,0,none⟩=some (.int .i64 (ed.a.length:Int)):=by rw[hbe.cell];rfl
     obtain⟨z0,z1,z2,z3⟩:=hk.bk.two
     have HK:=Lib.hid (And.intro hk hgt)
     clear hk hgt hc hbe ht h5k
     by_cases hmk:m<K0
     ·have d1:(t.to:Int)+2≤(ed.a.length:Int):=by have:=HK.out.2.2 hmk;omega
      have v1:IntKind.i64.wrap ((t.to:Int)+2)=(t.to:Int)+2:=IntWalk.i64_in _ (by omega)
      go_wp2_with fail
      go_quiet (fail)
      have kb:Bk (wr.drewN nq) w4.heap.size 33 _:=HK.out.1.bk
      obtain⟨z0,z1,z2,z3⟩:=kb.two
      go_wp2_with fail
      refine⟨⟨m+1,by omega,by go_num,?_⟩,by simp[intOf]<;>omega⟩
      have h:=(HK.out.1.below (below_drewN' (Below.refl _ wr) nq)).set0 ((m:Int)+1)
      rw[show ((min (m+1) K0:Nat):Int)=(m:Int)+1 by omega]
      exact h
     ·have d1:¬(t.to:Int)+2≤(ed.a.length:Int):=fun h=>hmk (HK.out.2.1 (by omega))
      have v1:IntKind.i64.wrap ((t.to:Int)+2)=(t.to:Int)+2:=IntWalk.i64_in _ (by omega)
      go_wp2_with fail
      go_quiet (fail)
      go_wp2_with fail
      refine⟨⟨m+1,by omega,by go_num,?_⟩,by simp[intOf]<;>omega⟩
      have h:=HK.out.1.below (below_drewN' (Below.refl _ wr) nq)
      rw[show ((min (m+1) K0:Nat):Int)=((min m K0:Nat):Int) by omega]
      exact h
    ·obtain rfl:m=a.length:=by omega
     rw[Nat.min_eq_right hKl] at hk
     have HK:=Lib.hid hk
     clear hk
     go_wp2
     rename_i wr1
     go_loopw [15] (fun i wr=>∃m T:Nat,m≤a.length∧i=.int .i64 m∧TlM ed m T∧KI W5 w4.heap.size (K0:Int) (T:Int) wr) (fun i _=>a.length-(intOf i).toNat)
     case atStart=>exact⟨0,0,Nat.zero_le _,rfl,TlM.zero ed,HK.out⟩
     case round=>
       obtain⟨m,T,hm,rfl,hT,hk⟩:=hrel
       by_cases hlt:m<a.length
       ·have u1:(m:Int)<(a.length:Int):=by omega
        have u2:(0:Int)≤(m:Int):=by omega
        have HO:=Lib.hid (And.intro hT hk)
        clear hT hk
        go_wp2
        rename_i wr2
        go_loopw [16] (fun j wr=>∃n T:Nat,n≤b.length∧j=.int .i64 n∧TlJ ed m n T∧KI W5 w4.heap.size (K0:Int) (T:Int) wr) (fun j _=>b.length-(intOf j).toNat)
        case atStart=>exact⟨0,T,Nat.zero_le _,rfl,HO.out.1.begin,HO.out.2⟩
        case round=>
          obtain⟨n,T,hn,rfl,hT,hk⟩:=hrel
          by_cases hlt2:n<b.length
          ·have u3:(n:Int)<(b.length:Int):=by omega
           have u4:(0:Int)≤(n:Int):=by omega
           have h5k:∃cs,Bk W5 w4.heap.size 33 cs:=⟨_,H5.out.2.2.2.2.2.2.2.2.2.2.1⟩
           obtain⟨p,hp⟩:∃p,(plcs ed.old)[m]? = some p:=⟨_,List.getElem?_eq_getElem (by rw[HM.out.2.2.1];exact hlt)⟩
           obtain⟨q,hq⟩:∃q,(plcs ed.new)[n]? = some q:=⟨_,List.getElem?_eq_getElem (by rw[HM.out.2.2.2];exact hlt2)⟩
           have ht1:a[m]? = some p.1:=by rw[HM.out.1,List.getElem?_map,hp];rfl
           have ht2:b[n]? = some q.1:=by rw[HM.out.2.1,List.getElem?_map,hq];rfl
           have hmt:=mt_iff hp hq
           have pf:=plc_fr hp
           have qf:=plc_fr hq
           have pm:=plc_mem ed.old 0 lx0 _ (List.mem_of_getElem? hp)
           have qm:=plc_mem ed.new 0 lx0 _ (List.mem_of_getElem? hq)
           have pp:=stF_pd' ed.old m 0 lx0 (Nat.le_refl _)
           have qp:=stF_pd' ed.new n 0 lx0 (Nat.le_refl _)
           rw[←pf.2,←pf.1] at pp
           rw[←qf.2,←qf.1] at qp
           have u5:(m:Int)<(qs.length:Int):=by have:=H5.out.2.2.2.1;omega
           have u6:(n:Int)<(ps.length:Int):=by have:=H5.out.2.2.2.2.2.2.1;omega
           obtain⟨x,hx⟩:∃x,qs[m]? = some x:=⟨_,List.getElem?_eq_getElem (by omega)⟩
           obtain⟨y,hy⟩:∃y,ps[n]? = some y:=⟨_,List.getElem?_eq_getElem (by omega)⟩
           obtain⟨xX,xr⟩:=H5.out.2.2.2.2.1 m x hx
           obtain⟨yX,yr⟩:=H5.out.2.2.2.2.2.2.2.1 n y hy
           rw[←pf.2] at xX
           rw[←qf.2] at yX
           replace xr:=hk.rt h5k xr (by decide)
           replace yr:=hk.rt h5k yr (by decide)
           obtain⟨g1,o1,rfl,_,hc1⟩:=rd_sat tkc_len1 (hk.rt h5k H5.out.1 (by decide)).rd ht1 rfl
           obtain⟨g2,o2,rfl,_,hc2⟩:=rd_sat tkc_len1 (hk.rt h5k H5.out.2.1 (by decide)).rd ht2 rfl
           obtain⟨g3,o3,rfl,_,hc3⟩:=rd_sat lvc_len (hk.rt h5k H5.out.2.2.1 (by decide)).rd hx rfl
           obtain⟨g4,o4,rfl,_,hc4⟩:=rd_sat lvc_len (hk.rt h5k H5.out.2.2.2.2.2.1 (by decide)).rd hy rfl
           obtain⟨X,xv⟩:=x
           obtain⟨Y,yv⟩:=y
           simp only at xX yX xr yr
           obtain⟨A8,c8,rfl⟩:=xr.form
           obtain⟨A9,c9,rfl⟩:=yr.form
           obtain⟨⟨pk,pfr,pto,pop⟩,pX⟩:=p
           obtain⟨⟨qk,qfr,qto,qop⟩,qX⟩:=q
           simp only at xX yX hmt pm qm pp qp
           subst xX
           subst yX
           have y1:wr.cell? ⟨g1,o1+m*4+1,none⟩=some (.int .i64 (pfr:Int)):=hc1 1 _ rfl
           have y2:wr.cell? ⟨g2,o2+n*4+1,none⟩=some (.int .i64 (qfr:Int)):=hc2 1 _ rfl
           have s0:wr.cell? ⟨g3,o3+m*3,none⟩=some (.int .i64 X.aw):=hc3 0 _ rfl
           have s1:wr.cell? ⟨g3,o3+m*3+1,none⟩=some (.slice A8 X.pd.length c8):=hc3 1 _ rfl
           have s2:wr.cell? ⟨g3,o3+m*3+2,none⟩=some (.bool X.bd):=hc3 2 _ rfl
           have t0:wr.cell? ⟨g4,o4+n*3,none⟩=some (.int .i64 Y.aw):=hc4 0 _ rfl
           have t1:wr.cell? ⟨g4,o4+n*3+1,none⟩=some (.slice A9 Y.pd.length c9):=hc4 1 _ rfl
           have t2:wr.cell? ⟨g4,o4+n*3+2,none⟩=some (.bool Y.bd):=hc4 2 _ rfl
           have hbe:=H5.out.2.2.2.2.2.2.2.2.1.grown hk.hg (fun e=>by injection e with e;omega)
           have v0:wr.cell? ⟨w.heap.size,0,none⟩=some (.int .i64 (ed.a.length:Int)):=by rw[hbe.cell];rfl
           have v1:wr.cell? ⟨w.heap.size,1,none⟩=some (.string ⟨ed.d.toArray⟩):=by rw[hbe.cell];rfl
           obtain⟨z0,z1,z2,z3⟩:=hk.bk.two
           have eo:ed.old.length=ed.a.length+(ed.d.length+ed.c.length):=by unfold Ed.old;simp
           have q1:IntKind.i64.wrap ((ed.a.length:Int)+(ed.d.length:Int))=(ed.a.length:Int)+(ed.d.length:Int):=IntWalk.i64_in _ (by omega)
           have q2:IntKind.i64.wrap ((pfr:Int)+(ed.new.length:Int))=(pfr:Int)+(ed.new.length:Int):=IntWalk.i64_in _ (by omega)
           have q3:IntKind.i64.wrap ((pfr:Int)+(ed.new.length:Int)-(ed.old.length:Int))=(pfr:Int)+(ed.new.length:Int)-(ed.old.length:Int):=IntWalk.i64_in _ (by omega)
           have HK:=Lib.hid (And.intro hT (And.intro hk (And.intro hmt (And.intro xr (And.intro yr (And.intro (show X.pd.length≤9223372036854775807 by omega) (show Y.pd.length≤9223372036854775807 by omega)))))))
           clear eo hT hk hmt xr yr hc1 hc2 hc3 hc4 hbe h5k pf qf pm qm pp qp hp hq ht1 ht2 hx hy
           by_cases hT0:T=0
           rotate_left
           ·have k1:((T:Int)==0)=false:=by simp;omega
            go_wp2_with fail
            go_quiet (fail)
            go_wp2_with fail
            refine⟨⟨n+1,T,by omega,by go_num,HK.out.1.skip (fun h=>absurd h hT0),HK.out.2.1.below (below_drewN' (Below.refl _ wr) nq)⟩,by simp[intOf]<;>omega⟩
           have k1:((T:Int)==0)=true:=by simp[hT0]
           by_cases hge:ed.a.length+ed.d.length≤pfr
           rotate_left
           ·go_wp2_with fail
            have k2:decide ((ed.a.length:Int)+(ed.d.length:Int)≤(pfr:Int))=false:=decide_eq_false (by omega)
            go_quiet (fail)
            go_wp2_with fail
            refine⟨⟨n+1,T,by omega,by go_num,HK.out.1.skip (fun _ h=>hge (HK.out.2.2.1.1 h).1),HK.out.2.1.below (below_drewN' (Below.refl _ wr) nq)⟩,by simp[intOf]<;>omega⟩
           by_cases heq:(pfr:Int)+(ed.new.length:Int)-(ed.old.length:Int)=(qfr:Int)
           rotate_left
           ·go_wp2_with fail
            have k2:decide ((ed.a.length:Int)+(ed.d.length:Int)≤(pfr:Int))=true:=decide_eq_true (by omega)
            have k3:((pfr:Int)+(ed.new.length:Int)-(ed.old.length:Int)==(qfr:Int))=false:=by simp[heq]
            go_quiet (fail)
            go_wp2_with fail
            refine⟨⟨n+1,T,by omega,by go_num,HK.out.1.skip (fun _ h=>heq (HK.out.2.2.1.1 h).2.1),HK.out.2.1.below (below_drewN' (Below.refl _ wr) nq)⟩,by simp[intOf]<;>omega⟩
           go_wp2_with fail
           have k2:decide ((ed.a.length:Int)+(ed.d.length:Int)≤(pfr:Int))=true:=decide_eq_true (by omega)
           have k3:((pfr:Int)+(ed.new.length:Int)-(ed.old.length:Int)==(qfr:Int))=true:=by simp[heq]
           have HQ:=Lib.hid heq
           clear heq
           go_region_held3 (fun w'=>w'.cell? ⟨g1,o1+m*4+1,none⟩=some (.int .i64 (pfr:Int))∧w'.cell? ⟨g2,o2+n*4+1,none⟩=some (.int .i64 (qfr:Int))∧w'.cell? ⟨g3,o3+m*3,none⟩=some (.int .i64 X.aw)∧w'.cell? ⟨g3,o3+m*3+1,none⟩=some (.slice A8 X.pd.length c8)∧w'.cell? ⟨g3,o3+m*3+2,none⟩=some (.bool X.bd)∧w'.cell? ⟨g4,o4+n*3,none⟩=some (.int .i64 Y.aw)∧w'.cell? ⟨g4,o4+n*3+1,none⟩=some (.slice A9 Y.pd.length c9)∧w'.cell? ⟨g4,o4+n*3+2,none⟩=some (.bool Y.bd)∧w'.cell? ⟨w.heap.size,0,none⟩=some (.int .i64 (ed.a.length:Int))∧w'.cell? ⟨w.heap.size,1,none⟩=some (.string ⟨ed.d.toArray⟩)∧w'.cell? ⟨w4.heap.size,1,none⟩=some (.int .i64 (T:Int)))
            (first
             | with_reducible exact⟨y1,y2,s0,s1,s2,t0,t1,t2,v0,v1,z1⟩
             | (try dsimp only
                repeat' (first
                  | with_reducible assumption
                  | with_reducible apply And.intro
                  | with_reducible refine keep_drew ?_)))
            (first
             | (go_at_call 22
                with_reducible refine(same9_r X Y A8 A9 c8 c9 _ (HK.out.2.2.2.1.next (by go_grown)).rd (HK.out.2.2.2.2.1.next (by go_grown)).rd HK.out.2.2.2.2.2.1 HK.out.2.2.2.2.2.2).mono ?_
                rintro e w5 ⟨rfl,hb5⟩
                have y1:=bkeep hb5 y1
                have y2:=bkeep hb5 y2
                have s0:=bkeep hb5 s0
                have s1:=bkeep hb5 s1
                have s2:=bkeep hb5 s2
                have t0:=bkeep hb5 t0
                have t1:=bkeep hb5 t1
                have t2:=bkeep hb5 t2
                have v0:=bkeep hb5 v0
                have v1:=bkeep hb5 v1
                have z1:=bkeep hb5 z1
                have H6:=Lib.hid ((show Below wr.heap.size wr _ by go_grown).trans (hb5.mono (by simp)))
                clear hb5)
             | fail)
           have kb:=HK.out.2.1.below H6.out
           obtain⟨z4,z5,z6,z7⟩:=kb.bk.two
           have HB:=Lib.hid kb
           clear kb
           have w1:IntKind.i64.wrap ((a.length:Int)-(m:Int))=(a.length:Int)-(m:Int):=IntWalk.i64_in _ (by omega)
           by_cases hs:sameL X Y=true
           ·have HN:=Lib.hid (HK.out.2.2.1.2 ⟨hge,HQ.out,(sameL_iff X Y).1 hs⟩)
            have HT:=Lib.hid (show TlJ ed m n 0 from hT0▸HK.out.1)
            rw[hs]
            clear hs
            go_wp2_with fail
            refine⟨⟨n+1,a.length-m,by omega,by go_num,by rw[←HM.out.2.2.1];exact HT.out.take HN.out,?_⟩,by simp[intOf]<;>omega⟩
            have h:=HB.out.set1 ((a.length:Int)-(m:Int))
            rw[show ((a.length-m:Nat):Int)=(a.length:Int)-(m:Int) by omega]
            exact h
           ·have HN:=Lib.hid (fun h:Mt ed m n=>hs ((sameL_iff X Y).2 (HK.out.2.2.1.1 h).2.2))
            have hs':sameL X Y=false:=by simpa using hs
            rw[hs']
            clear hs hs'
            go_wp2_with fail
            refine⟨⟨n+1,T,by omega,by go_num,HK.out.1.skip (fun _=>HN.out),HB.out⟩,by simp[intOf]<;>omega⟩
          ·obtain rfl:n=b.length:=by omega
           have hT2:=hT.done (by rw[HM.out.2.2.2];exact Nat.le_refl _)
           have HI:=Lib.hid (And.intro hT2 hk)
           clear hT hT2 hk
           go_wp2_with fail
           exact⟨⟨m+1,T,by omega,by go_num,HI.out.1,HI.out.2⟩,by simp[intOf]<;>omega⟩
       ·obtain rfl:m=a.length:=by omega
        have h5k:∃cs,Bk W5 w4.heap.size 33 cs:=⟨_,H5.out.2.2.2.2.2.2.2.2.2.2.1⟩
        have hTT:TailP ed T:=TlM.tail (by rw[HM.out.2.2.1];exact hT)
        have kR:=H5.out.2.2.2.2.2.2.2.2.2.1.grown hk.hg (fun e=>by injection e with e;omega)
        obtain⟨z0,z1,_⟩:=hk.bk.two
        obtain⟨x0,x1,x2,x3⟩:=kR.two
        have hbw:Below w.heap.size w wr:=H5.out.2.2.2.2.2.2.2.2.2.2.2.grown hk.hg H5.out.2.2.2.2.2.2.2.2.2.2.2.size (fun k hk=>by injection hk with hk;omega)
        have HE:=Lib.hid (And.intro hTT (And.intro kR hbw))
        clear hTT hT hk kR hbw h5k
        go_wp2_with fail
        have b6:=(HE.out.2.2.setCell (p:=⟨w.heap.size+1,0,none⟩) (Nat.le_succ _) (.int .i64 (K0:Int))).setCell (p:=⟨w.heap.size+1,1,none⟩) (Nat.le_succ _) (.int .i64 (T:Int))
        have k6:=(HE.out.2.1.set 0 (.int .i64 (K0:Int))).set 1 (.int .i64 (T:Int))
        generalize World.setCell _ _ _=W6 at b6 k6 ⊢
        have c0:W6.cell? ⟨w.heap.size+1,0,none⟩=some (.int .i64 (K0:Int)):=by rw[k6.cell];rfl
        have c1:W6.cell? ⟨w.heap.size+1,1,none⟩=some (.int .i64 (T:Int)):=by rw[k6.cell];rfl
        exact⟨rfl,.agg #[.int .i64 (K0:Int),.int .i64 (T:Int)],by simp[results,Tryz.results10,go_sem,c0,c1],T,HE.out.1,rfl,b6⟩
end Go.Proofs.YtnclfgkpcpcapaaGreatDoor
namespace Go.Proofs.YtnclfgkpcpcapaaGreatDoor
open Go.RowKit
set_option linter.unusedVariables false
set_option linter.unusedSimpArgs false
structure KF (ts us:List Tk) (K T:Nat) (dl:Int):Prop where
  h1:K+T≤ts.length
  h2:K+T≤us.length
  tk:ts.take K=us.take K
  tl:∀i,1≤i→i≤T→∃x y:Tk,ts[ts.length-i]? = some x∧us[us.length-i]? = some y∧x.kd=y.kd∧x.op=y.op∧(y.fr:Int)-(x.fr:Int)=dl∧(y.to:Int)-(x.to:Int)=dl
theorem kf_ed {e:Ed} {T:Nat} (h:TailP e T):KF (lexL e.old).1 (lexL e.new).1 (hdN e.old e.a.length) T ((e.new.length:Int)-(e.old.length:Int)):=by
  have em:∀l:List UInt8,(lexL l).1=(plcs l).map Prod.fst:=fun l=>plc_lex1 l 0 lx0
  have hk:=hdN_le e.old e.a.length
  have hh:=e.head.1
  have ho:=e.nohead
  have hg:=fun (i:Nat) (p:Tk×Lx) (hp:(plcs e.old)[i]? = some p)=>(hdN_get (a:=e.a.length) hp).2
  have e1:e.old.length=e.a.length+(e.d.length+e.c.length):=by unfold Ed.old;simp
  have e2:e.new.length=e.a.length+(e.i.length+e.c.length):=by unfold Ed.new;simp
  obtain⟨K,hK⟩:∃K,K=hdN e.old e.a.length:=⟨_,rfl⟩
  rw[←hK] at hk hh ho hg ⊢
  have ht:(plcs e.new).take K=(plcs e.old).take K:=by
    rw[hh,List.take_append_of_le_length (by rw[List.length_take];omega),List.take_take,Nat.min_self]
  have hkn:K≤(plcs e.new).length:=by
    have:=congrArg List.length ht
    rw[List.length_take,List.length_take] at this
    omega
  have tk:(lexL e.old).1.take K=(lexL e.new).1.take K:=by
    rw[em,em,←List.map_take,←List.map_take,ht]
  rcases h.w with ⟨rfl,_⟩|⟨i,j,hm,_,rfl⟩
  ·exact⟨by rw[em,List.length_map];omega,by rw[em,List.length_map];omega,tk,fun i h1 h2=>by omega⟩
  ·obtain⟨hi,hj⟩:=hm.lt
   obtain⟨t1,_,t3⟩:=hm.tail
   have hln:=congrArg List.length t1
   rw[List.length_drop,List.length_map,List.length_drop] at hln
   have hKj:K≤j:=Nat.le_of_not_lt fun hlt=>ho j hlt i hm
   have hKi:K≤i:=Nat.le_of_not_lt fun hlt=>by
     obtain⟨p,q,h1,_,h3,_⟩:=hm.w
     have h4:=hg i p h1 hlt
     have h5:=plc_mem e.old _ _ p (List.mem_of_getElem? h1)
     omega
   refine⟨by rw[em,List.length_map];omega,by rw[em,List.length_map];omega,tk,fun n h1 h2=>?_⟩
   obtain⟨p,hp⟩:∃p,((plcs e.old).drop i)[(plcs e.old).length-i-n]? = some p:=⟨_,List.getElem?_eq_getElem (by rw[List.length_drop];omega)⟩
   have hq:((plcs e.new).drop j)[(plcs e.old).length-i-n]? = some (mvT e.d.length e.i.length p.1,p.2):=by rw[t1,List.getElem?_map,hp];rfl
   obtain⟨d1,d2⟩:=t3 p (List.mem_of_getElem? hp)
   rw[List.getElem?_drop] at hp hq
   refine⟨p.1,mvT e.d.length e.i.length p.1,?_,?_,rfl,rfl,?_,?_⟩
   ·rw[em,List.length_map,List.getElem?_map,show (plcs e.old).length-n=i+((plcs e.old).length-i-n) by omega,hp];rfl
   ·rw[em,List.length_map,List.getElem?_map,show (plcs e.new).length-n=j+((plcs e.old).length-i-n) by omega,hq];rfl
   ·show ((p.1.fr-e.d.length+e.i.length:Nat):Int)-_=_
    omega
   ·show ((p.1.to-e.d.length+e.i.length:Nat):Int)-_=_
    omega
end Go.Proofs.YtnclfgkpcpcapaaGreatDoor
namespace Go.Proofs.YtnclfgkpcpcapaaGreatDoor
open Go.RowKit
set_option linter.unusedVariables false
set_option linter.unusedSimpArgs false
set_option maxRecDepth 100000
theorem ex_min {p:Nat→Prop}:∀n,p n→∃m,p m∧∀k,p k→m≤k:=by
  intro n
  induction n using Nat.strongRecOn with
  | _ n ih=>
    intro hn
    by_cases h:∃k,k<n∧p k
    ·obtain⟨k,hk,hp⟩:=h
     exact ih k hk hp
    ·exact⟨n,hn,fun k hk=>Nat.le_of_not_lt fun hlt=>h ⟨k,hlt,hk⟩⟩
theorem tail_ex (e:Ed):∃T,TailP e T:=by
  by_cases h:∃i,∃j,Mt e i j
  ·obtain⟨i,hi⟩:=h
   obtain⟨m,⟨j,hm⟩,hk⟩:=ex_min (p:=fun i=>∃j,Mt e i j) i hi
   exact⟨_,⟨.inr ⟨m,j,hm,fun i' j' h'=>hk i' ⟨j',h'⟩,rfl⟩⟩⟩
  ·exact⟨0,⟨.inl ⟨rfl,fun i j hm=>h ⟨i,j,hm⟩⟩⟩⟩
structure Kpc (l0 l1:List UInt8) (x:Ez) (ts us:List Tk) (N M K T:Nat) (D:Int):Prop where
  ap:∀g W,DocP W g l0→Calls Tryz.prog 8 #[.pointer (some ⟨g,0,none⟩),.agg #[.int .i64 x.a,.string ⟨x.d.toArray⟩,.string ⟨x.i.toArray⟩]] W fun e w'=>e=.returned (.tuple #[.agg #[.int .i64 (K:Int),.int .i64 (T:Int)],.int .i64 0])∧DocP w' g l1∧W.grownBy w' (some g)
  kp:∀W,Calls Tryz.prog 10 #[.string ⟨l0.toArray⟩,.agg #[.int .i64 x.a,.string ⟨x.d.toArray⟩,.string ⟨x.i.toArray⟩],.string ⟨l1.toArray⟩] W fun e w'=>e=.returned (.agg #[.int .i64 (K:Int),.int .i64 (T:Int)])∧Below W.heap.size W w'
  dn:∀W,Calls Tryz.prog 9 #[.string ⟨l0.toArray⟩,.agg #[.int .i64 x.a,.string ⟨x.d.toArray⟩,.string ⟨x.i.toArray⟩]] W fun e w'=>e=.returned (.string ⟨l1.toArray⟩)∧Below W.heap.size W w'
  wr:∀W,Calls Tryz.prog 5 #[.string ⟨l0.toArray⟩,.agg #[.int .i64 x.a,.string ⟨x.d.toArray⟩,.string ⟨x.i.toArray⟩]] W fun e w'=>e=.returned (.int .i64 0)∧Below W.heap.size W w'
  tk:∀g W,DocP W g l0→Calls Tryz.prog 7 #[.pointer (some ⟨g,0,none⟩)] W fun e w'=>∃v,e=.returned v∧w'.ownsRow W.heap.size 40 4 v N (tkcs ts)∧Below W.heap.size W w'
  tl:∀g W,DocP W g l1→Calls Tryz.prog 7 #[.pointer (some ⟨g,0,none⟩)] W fun e w'=>∃v,e=.returned v∧w'.ownsRow W.heap.size 40 4 v M (tkcs us)∧Below W.heap.size W w'
  st:∀(A A':Option Addr) (c c':Nat) (W W':World),Below W.heap.size W W'→Rd W W.heap.size 4 (.slice A N c) N (tkcs ts)→Rd W W.heap.size 4 (.slice A' M c') M (tkcs us)→Calls Tryz.prog 11 #[.slice A K c,.slice A' K c'] W' fun e w'=>e=.returned (.bool true)∧Below W'.heap.size W' w'
  at_:∀k,1≤k→k≤T→∃a b:Tk,ts[N-k]? = some a∧us[M-k]? = some b∧a.kd=b.kd∧a.op=b.op∧(b.fr:Int)-(a.fr:Int)=D∧(b.to:Int)-(a.to:Int)=D
  tb:∀t∈ts,t.fr≤1000000∧t.to≤1000000
  ub:∀t∈us,t.fr≤1000000∧t.to≤1000000
  tn:ts.length=N
  un:us.length=M
  dl:(l1.length:Int)-(l0.length:Int)=D
theorem tkcs_take (ts:List Tk):∀k,(tkcs ts).take (k*4)=tkcs (ts.take k):=by
  induction ts with
  | nil=>intro k;rw[List.take_nil];exact List.take_nil
  | cons t ts ih=>
    intro k
    cases k with
    | zero=>rfl
    | succ k=>
      show (tkc t++tkcs ts).take _=tkc t++tkcs (ts.take k)
      rw[List.take_append,←ih k,List.take_of_length_le (by show 4≤_;omega),show (tkc t).length=4 from rfl,show (k+1)*4-4=k*4 by omega]
theorem tok_b {l:List UInt8} {t:Tk} (h:t∈(lexL l).1) (hl:l.length≤1000000):t.fr≤1000000∧t.to≤1000000:=by
  rw[show (lexL l).1=(plcs l).map Prod.fst from plc_lex1 l 0 lx0] at h
  obtain⟨p,hp,rfl⟩:=List.mem_map.1 h
  have:=plc_mem l _ _ p hp
  omega
theorem kc_ed (ed:Ed) (x:Ez) {T:Nat} (hT:TailP ed T) (e1:(ed.a.length:Int)=x.a) (e2:ed.d=x.d) (e3:ed.i=x.i) (hl:ed.old.length≤100) (hi:x.i.length≤60) :
    ∃ts us N M K D,Kpc ed.old ed.new x ts us N M K T D∧N≤900∧M≤900∧K+T≤N∧K+T≤M∧ed.new.length≤160:=by
  have hln:ed.new.length≤160:=by
    rw[←e3] at hi
    unfold Ed.old at hl
    unfold Ed.new
    simp only[List.length_append] at hl ⊢
    omega
  have hd:ed.d.length≤100:=by unfold Ed.old at hl;simp only[List.length_append] at hl;omega
  have hi2:ed.i.length≤60:=by rw[e3];exact hi
  obtain⟨o1,o2⟩:=okE_of ed
  have kf:=kf_ed hT
  have n0:=lexL_len ed.old
  have n1:=lexL_len ed.new
  refine⟨(lexL ed.old).1,(lexL ed.new).1,(lexL ed.old).1.length,(lexL ed.new).1.length,hdN ed.old ed.a.length,_,⟨fun g W h=>?_,fun W=>?_,fun W=>?_,fun W=>?_,fun g W h=>dtok_m g _ W h (by omega),fun g W h=>dtok_m g _ W h (by omega),fun A A' c c' W W' hb h1 h2=>?_,kf.tl,fun t ht=>tok_b ht (by omega),fun t ht=>tok_b ht (by omega),rfl,rfl,rfl⟩,by omega,by omega,kf.h1,kf.h2,hln⟩
  ·have h:=apply_ok g ed W h (by omega) (by omega) o1 o2
   rw[e1,e2,e3] at h
   refine h.mono ?_
   rintro e w' ⟨T',hT',rfl,h2,h3⟩
   rw[tail_uniq hT' hT]
   exact⟨rfl,h2,h3⟩
  ·have h:=rkept_m ed W (by omega) (by omega)
   rw[e1,e2,e3] at h
   refine h.mono ?_
   rintro e w' ⟨T',hT',rfl,h2⟩
   rw[tail_uniq hT' hT]
   exact⟨rfl,h2⟩
  ·have h:=rdo_m ed.old ed.d ed.i (ed.a.length:Int) W (by omega) (by omega) (by omega) o1
   rw[o2] at h
   unfold edv at h
   rw[e1,e2,e3] at h
   exact h
  ·have ha:=x.ha
   have h:=wrong_m ed.old ed.d ed.i (ed.a.length:Int) W (by omega) (by omega) (by omega) (by rw[e1];exact ha)
   rw[if_pos o1] at h
   unfold edv at h
   rw[e1,e2,e3] at h
   exact h
  ·have hk:((lexL ed.old).1.take (hdN ed.old ed.a.length)).length=hdN ed.old ed.a.length:=by rw[List.length_take];have:=kf.h1;omega
   have r1:=(h1.take (k:=hdN ed.old ed.a.length) (by have:=kf.h1;omega)).next hb
   have r2:=(h2.take (k:=hdN ed.old ed.a.length) (by have:=kf.h2;omega)).next hb
   rw[tkcs_take] at r1 r2
   rw[←kf.tk] at r2
   have h:=samet_m ((lexL ed.old).1.take (hdN ed.old ed.a.length)) A A' c c' W' (by rw[hk];have:=kf.h1;omega) (by rw[hk];exact r1) (by rw[hk];exact r2)
   rw[hk] at h
   exact h
set_option maxHeartbeats 4000000 in
theorem relexKept_ok (l0 l1:List UInt8) (x:Ez) (ts us:List Tk) (N M K T:Nat) (D:Int) (w:World) (hkc:Kpc l0 l1 x ts us N M K T D) (k1:¬(100:Int)<(l0.length:Int)) (k2:¬(60:Int)<(x.d.length:Int)) (k3:¬(60:Int)<(x.i.length:Int))
    (hl1:l1.length≤160) (hN:N≤900) (hM:M≤900) (h1:K+T≤N) (h2:K+T≤M) :
    Calls Tryz.prog 3 #[.string ⟨l0.toArray⟩,.agg #[.int .i64 x.a,.string ⟨x.d.toArray⟩,.string ⟨x.i.toArray⟩]] w fun e w'=>e=.returned (.bool true)∧Below w.heap.size w w':=by
  have HC:=Lib.hid hkc
  have hl:l0.length≤100:=by omega
  clear hkc
  go_enter Tryz.func3,Tryz.ntmps3
  go_upto_region 10 with (first
    | (go_at_call 4
       refine(awake10_c _).mono ?_
       rintro e w1 ⟨rfl,hb⟩
       have kb:=(Bk.new w 23 #[.int .i64 x.a,.string ⟨x.d.toArray⟩,.string ⟨x.i.toArray⟩]).below hb (by simp)
       obtain⟨q0,q1,q2,_⟩:=kb.three
       have H1:=Lib.hid (And.intro kb (((Below.refl _ w).alloc (Nat.le_refl _) _).trans (hb.mono (by simp))))
       clear kb hb)
    | (go_at_call 5
       with_reducible refine(HC.out.wr _).mono ?_
       rintro e w2 ⟨rfl,hb⟩
       have H2:=Lib.hid (And.intro (H1.out.1.below hb H1.out.1.lt) (H1.out.2.trans (hb.mono H1.out.2.size)))
       clear hb)
    | (go_at_call 6
       refine(new10_m l0 _ (by omega)).mono ?_
       rintro e w3 ⟨g,rfl,hg,hD,hb⟩
       have hgw:w.heap.size≤g:=Nat.le_trans H2.out.2.size hg
       have H3:=Lib.hid (And.intro hD (And.intro (H2.out.1.below hb H2.out.1.lt) (H2.out.2.trans (hb.mono H2.out.2.size))))
       clear hg hD hb)
    | (go_at_call 7
       refine(HC.out.tk g _ H3.out.1).mono ?_
       rintro e w4 ⟨v,rfl,ho,hb⟩
       obtain⟨A,n,c,rfl⟩:=own_form' ho
       obtain rfl:=own_len ho
       have hc4:n≤c:=(Rt.of_own ho).le.2.1
       have kb:=H3.out.2.1.below hb H3.out.2.1.lt
       obtain⟨q0,q1,q2,_⟩:=kb.three
       have H4:=Lib.hid (And.intro (H3.out.1.next hb) (And.intro kb (And.intro (H3.out.2.2.trans (hb.mono H3.out.2.2.size)) (own_base (B':=w.heap.size) ho H3.out.2.2.size))))
       clear ho hb kb)
    | (go_at_call 8
       with_reducible refine(HC.out.ap g _ H4.out.1).mono ?_
       rintro e w5 ⟨rfl,hD,hg⟩
       have n1:w.heap.size≠g:=by obtain⟨_,_,_,_,k2,_⟩:=H4.out.1;exact bk_ne H4.out.2.1 k2.bk (by decide)
       have kb:=H4.out.2.1.grown hg (fun e=>n1 (by injection e))
       have ro:=H4.out.2.2.2.kept hg (.inr (fun e=>by obtain⟨_,_,_,_,k2,_⟩:=H4.out.1;exact own_ne H4.out.2.2.2 k2.bk (by decide) e))
       have H5:=Lib.hid (And.intro hD (And.intro kb (And.intro (Below.grown H4.out.2.2.1 hg H4.out.2.2.1.size (fun k hk=>by injection hk with hk;omega)) ro)))
       clear hD hg kb ro n1)
    | fail)
  refine gen1 fun W6 hb6 k6 hs6=>?_
  clear hs6
  have kb6:=H5.out.2.1.below hb6 H5.out.2.1.lt
  obtain⟨q0,q1,q2,_⟩:=kb6.three
  have H6:=Lib.hid (And.intro (H5.out.1.next hb6) (And.intro kb6 (And.intro (H5.out.2.2.1.trans (hb6.mono H5.out.2.2.1.size)) (And.intro (own_below H5.out.2.2.2 hb6) k6))))
  clear hb6 k6 kb6
  go_upto_region 11 with (
    (go_at_call 9
     with_reducible refine(HC.out.dn _).mono ?_
     rintro e w7 ⟨rfl,hb⟩
     have kb7:=H6.out.2.1.below hb H6.out.2.1.lt
     have kk7:=H6.out.2.2.2.2.below hb H6.out.2.2.2.2.lt
     have H7:=Lib.hid (And.intro (H6.out.1.next hb) (And.intro kb7 (And.intro (H6.out.2.2.1.trans (hb.mono H6.out.2.2.1.size)) (And.intro (own_below H6.out.2.2.2.1 hb) kk7))))
     clear hb kb7 kk7))
  obtain⟨q0,q1,q2,_⟩:=H7.out.2.1.three
  obtain⟨z0,z1,_⟩:=H7.out.2.2.2.2.two
  go_region_held3 (fun w'=>w'.cell? ⟨w5.heap.size,0,none⟩=some (.int .i64 (K:Int))∧w'.cell? ⟨w5.heap.size,1,none⟩=some (.int .i64 (T:Int))∧w'.cell? ⟨w.heap.size,0,none⟩=some (.int .i64 x.a)∧w'.cell? ⟨w.heap.size,1,none⟩=some (.string ⟨x.d.toArray⟩)∧w'.cell? ⟨w.heap.size,2,none⟩=some (.string ⟨x.i.toArray⟩))
   (first|with_reducible exact⟨z0,z1,q0,q1,q2⟩|exact⟨z0,z1,q0,q1,q2⟩)
   (
    (go_at_call 10
     with_reducible refine(HC.out.kp _).mono ?_
     rintro e w8 ⟨rfl,hb⟩
     have z0:=bkeep hb z0
     have z1:=bkeep hb z1
     have q0:=bkeep hb q0
     have q1:=bkeep hb q1
     have q2:=bkeep hb q2
     have H8:=Lib.hid ((Below.refl _ w7).drew.trans hb)
     clear hb))
  go_upto_region 14 with (
    (go_at_call 7
     have hb78:Below w7.heap.size w7 w8:=H8.out
     with_reducible refine(HC.out.tl g _ (H7.out.1.next hb78)).mono ?_
     rintro e w9 ⟨v,rfl,ho,hb⟩
     obtain⟨A9,n9,c9,rfl⟩:=own_form' ho
     obtain rfl:=own_len ho
     have hc9:n9≤c9:=(Rt.of_own ho).le.2.1
     have hb79:=hb78.trans (hb.mono hb78.size)
     have kk9:=H7.out.2.2.2.2.below hb79 H7.out.2.2.2.2.lt
     have H9:=Lib.hid (And.intro (Rd.of_own (own_below H7.out.2.2.2.1 hb79)) (And.intro (Rd.of_own ho) (And.intro (H7.out.2.2.1.trans (hb79.mono H7.out.2.2.1.size)) kk9)))
     clear ho hb hb79 kk9 hb78))
  have d1:decide ((K:Int)<0)=false:=decide_eq_false (by omega)
  have d2:decide ((T:Int)<0)=false:=decide_eq_false (by omega)
  have v1:IntKind.i64.wrap ((n:Int)-(T:Int))=(n:Int)-(T:Int):=IntWalk.i64_in _ (by omega)
  have v2:IntKind.i64.wrap ((n9:Int)-(T:Int))=(n9:Int)-(T:Int):=IntWalk.i64_in _ (by omega)
  have d3:decide ((n:Int)-(T:Int)<(K:Int))=false:=decide_eq_false (by omega)
  have d4:decide ((n9:Int)-(T:Int)<(K:Int))=false:=decide_eq_false (by omega)
  have u1:(0:Int)≤(K:Int):=by omega
  have u2:(K:Int)≤(c:Int):=by omega
  have u3:(K:Int)≤(c9:Int):=by omega
  obtain⟨z0,z1,_⟩:=H9.out.2.2.2.two
  go_region_held3 (fun w'=>w'.cell? ⟨w5.heap.size,0,none⟩=some (.int .i64 (K:Int))∧w'.cell? ⟨w5.heap.size,1,none⟩=some (.int .i64 (T:Int)))
   (first|with_reducible exact⟨z0,z1⟩|exact⟨z0,z1⟩)
   (
    (go_at_call 11
     refine(HC.out.st _ _ _ _ w9 _ (Below.refl _ w9).drew H9.out.1 H9.out.2.1).mono ?_
     rintro e w10 ⟨rfl,hb⟩
     have z0:=bkeep hb z0
     have z1:=bkeep hb z1
     have H10:=Lib.hid ((Below.refl _ w9).drew.trans hb)
     clear hb))
  go_wp2_with fail
  have hdl:=HC.out.dl
  have dz:IntKind.i64.wrap ((l1.length:Int)-(l0.length:Int))=D:=by rw[IntWalk.i64_in _ (by omega)];exact hdl
  have hb910:Below w9.heap.size w9 w10:=H10.out
  have HQ:=Lib.hid (And.intro (H9.out.1.next hb910) (And.intro (H9.out.2.1.next hb910) (And.intro (H9.out.2.2.1.trans (hb910.mono H9.out.2.2.1.size)) (H9.out.2.2.2.below hb910 H9.out.2.2.2.lt))))
  clear hdl hb910 d1 d2 d3 d4 v1 v2 u1 u2 u3
  go_loopw [12] (fun i wr=>∃k:Nat,1≤k∧k≤T+1∧i=.int .i64 k∧Below w10.heap.size w10 wr) (fun i _=>T+1-(intOf i).toNat)
  case atStart=>exact⟨1,Nat.le_refl _,by omega,rfl,Below.refl _ _⟩
  case round=>
    obtain⟨k,hk1,hk2,rfl,hb⟩:=hrel
    obtain⟨z0,z1,_⟩:=(HQ.out.2.2.2.below hb HQ.out.2.2.2.lt).two
    by_cases hlt:k≤T
    ·obtain⟨a,b,ha,hbb,e1,e2,e3,e4⟩:=HC.out.at_ k hk1 hlt
     obtain⟨i,hi⟩:∃i,i=n-k:=⟨_,rfl⟩
     obtain⟨j,hj⟩:∃j,j=n9-k:=⟨_,rfl⟩
     have v1:IntKind.i64.wrap ((n:Int)-(k:Int))=(i:Int):=by rw[IntWalk.i64_in _ (by omega)];omega
     have v2:IntKind.i64.wrap ((n9:Int)-(k:Int))=(j:Int):=by rw[IntWalk.i64_in _ (by omega)];omega
     have u1:(i:Int)<(n:Int):=by omega
     have u2:(j:Int)<(n9:Int):=by omega
     have u3:(0:Int)≤(i:Int):=by omega
     have u4:(0:Int)≤(j:Int):=by omega
     have u5:(k:Int)≤(T:Int):=by omega
     rw[←hi] at ha
     rw[←hj] at hbb
     obtain⟨g1,o1,rfl,_,hc1⟩:=rd_sat tkc_len1 (HQ.out.1.next hb) ha HC.out.tn.symm
     obtain⟨g2,o2,rfl,_,hc2⟩:=rd_sat tkc_len1 (HQ.out.2.1.next hb) hbb HC.out.un.symm
     obtain⟨ak,af,at',ao⟩:=a
     obtain⟨bk,bf,bt,bo⟩:=b
     replace e1:ak=bk:=e1
     replace e2:ao=bo:=e2
     subst e1
     subst e2
     have ab:af≤1000000∧at'≤1000000∧bf≤1000000∧bt≤1000000:=by
       have m1:=HC.out.tb _ (List.mem_of_getElem? ha)
       have m2:=HC.out.ub _ (List.mem_of_getElem? hbb)
       exact⟨m1.1,m1.2,m2.1,m2.2⟩
     have x1:IntKind.i64.wrap ((bf:Int)-(af:Int))=D:=by rw[IntWalk.i64_in _ (by omega)];exact e3
     have x2:IntKind.i64.wrap ((bt:Int)-(at':Int))=D:=by rw[IntWalk.i64_in _ (by omega)];exact e4
     have y0:wr.cell? ⟨g1,o1+i*4,none⟩=some (.int .i64 (ak:Int)):=hc1 0 _ rfl
     have y1:wr.cell? ⟨g1,o1+i*4+1,none⟩=some (.int .i64 (af:Int)):=hc1 1 _ rfl
     have y2:wr.cell? ⟨g1,o1+i*4+2,none⟩=some (.int .i64 (at':Int)):=hc1 2 _ rfl
     have y3:wr.cell? ⟨g1,o1+i*4+3,none⟩=some (.bool ao):=hc1 3 _ rfl
     have q0:wr.cell? ⟨g2,o2+j*4,none⟩=some (.int .i64 (ak:Int)):=hc2 0 _ rfl
     have q1:wr.cell? ⟨g2,o2+j*4+1,none⟩=some (.int .i64 (bf:Int)):=hc2 1 _ rfl
     have q2:wr.cell? ⟨g2,o2+j*4+2,none⟩=some (.int .i64 (bt:Int)):=hc2 2 _ rfl
     have q3:wr.cell? ⟨g2,o2+j*4+3,none⟩=some (.bool ao):=hc2 3 _ rfl
     have HB:=Lib.hid hb
     clear hb hc1 hc2 ha hbb e3 e4 ab hi hj
     go_upto_region 20 with fail
     refine gen1 fun W1 hb1 k1 hs1=>?_
     clear hs1
     have q0:=bkeep hb1 q0
     have q1:=bkeep hb1 q1
     have q2:=bkeep hb1 q2
     have q3:=bkeep hb1 q3
     clear y0 y1 y2 y3
     go_upto_region 21 with fail
     refine gen1 fun W2 hb2 k2 hs2=>?_
     clear hs2
     have kx:=k1.below hb2 k1.lt
     have y0:W2.cell? ⟨wr.heap.size,0,none⟩=some (.int .i64 (ak:Int)):=kx.cell 0
     have y1:W2.cell? ⟨wr.heap.size,1,none⟩=some (.int .i64 (af:Int)):=kx.cell 1
     have y2:W2.cell? ⟨wr.heap.size,2,none⟩=some (.int .i64 (at':Int)):=kx.cell 2
     have y3:W2.cell? ⟨wr.heap.size,3,none⟩=some (.bool ao):=kx.cell 3
     have q0:W2.cell? ⟨W1.heap.size,0,none⟩=some (.int .i64 (ak:Int)):=k2.cell 0
     have q1:W2.cell? ⟨W1.heap.size,1,none⟩=some (.int .i64 (bf:Int)):=k2.cell 1
     have q2:W2.cell? ⟨W1.heap.size,2,none⟩=some (.int .i64 (bt:Int)):=k2.cell 2
     have q3:W2.cell? ⟨W1.heap.size,3,none⟩=some (.bool ao):=k2.cell 3
     have HB2:=Lib.hid (HB.out.trans ((hb1.trans (hb2.mono hb1.size)).mono HB.out.size))
     clear kx k1 k2 hb1 hb2
     go_wp2_with fail
     exact⟨⟨k+1,by omega,by omega,by go_num,HB2.out⟩,by simp[intOf]<;>omega⟩
    ·have u1:¬(k:Int)≤(T:Int):=by omega
     have HB:=Lib.hid hb
     clear hb
     go_wp2_with fail
     go_ret
     exact⟨rfl,HQ.out.2.2.1.trans (HB.out.mono HQ.out.2.2.1.size)⟩
set_option maxHeartbeats 1000000 in
theorem relexKept_no (l0:List UInt8) (x:Ez) (w:World) (h:(100:Int)<(l0.length:Int)∨(¬(100:Int)<(l0.length:Int)∧(60:Int)<(x.d.length:Int))∨(¬(100:Int)<(l0.length:Int)∧¬(60:Int)<(x.d.length:Int)∧(60:Int)<(x.i.length:Int))∨(¬(100:Int)<(l0.length:Int)∧¬(60:Int)<(x.d.length:Int)∧¬(60:Int)<(x.i.length:Int)∧okE l0 x.d x.a=false)) :
    Calls Tryz.prog 3 #[.string ⟨l0.toArray⟩,.agg #[.int .i64 x.a,.string ⟨x.d.toArray⟩,.string ⟨x.i.toArray⟩]] w fun e w'=>e=.returned (.bool true)∧Below w.heap.size w w':=by
  rcases h with k1|⟨k1,k2⟩|⟨k1,k2,k3⟩|⟨k1,k2,k3,k4⟩
  case' inr.inr.inr=>
    have hc:=fun W=>wrong_m l0 x.d x.i x.a W (by omega) (by omega) (by omega) x.ha
    unfold edv at hc
    simp only[k4,if_false,Bool.false_eq_true] at hc
    have HC:=Lib.hid hc
    clear hc k4
  all_goals (
    go_enter Tryz.func3,Tryz.ntmps3
    go_wp2_with (first
      | (go_at_call 4
         refine(awake10_c _).mono ?_
         rintro e w1 ⟨rfl,hb⟩
         have kb:=(Bk.new w 23 #[.int .i64 x.a,.string ⟨x.d.toArray⟩,.string ⟨x.i.toArray⟩]).below hb (by simp)
         obtain⟨q0,q1,q2,_⟩:=kb.three
         have H1:=Lib.hid (((Below.refl _ w).alloc (Nat.le_refl _) _).trans (hb.mono (by simp)))
         clear kb hb)
      | (go_at_call 5
         with_reducible refine(HC.out _).mono ?_
         rintro e w2 ⟨rfl,hb⟩
         have H2:=Lib.hid (H1.out.trans (hb.mono H1.out.size))
         clear hb)
      | fail)
    go_ret
    exact⟨rfl,by first|exact H2.out|exact H1.out⟩)
theorem relexKept_w (l0:List UInt8) (x:Ez) (w:World) (hm:l0.length≤9223372036854775807) :
    Calls Tryz.prog 3 #[.string ⟨l0.toArray⟩,.agg #[.int .i64 x.a,.string ⟨x.d.toArray⟩,.string ⟨x.i.toArray⟩]] w fun e w'=>e=.returned (.bool true)∧Below w.heap.size w w':=by
  by_cases k1:(100:Int)<(l0.length:Int)
  ·exact relexKept_no l0 x w (.inl k1)
  ·by_cases k2:(60:Int)<(x.d.length:Int)
   ·exact relexKept_no l0 x w (.inr (.inl ⟨k1,k2⟩))
   ·by_cases k3:(60:Int)<(x.i.length:Int)
    ·exact relexKept_no l0 x w (.inr (.inr (.inl ⟨k1,k2,k3⟩)))
    ·cases k4:okE l0 x.d x.a
     ·exact relexKept_no l0 x w (.inr (.inr (.inr ⟨k1,k2,k3,k4⟩)))
     ·obtain⟨ed,d1,d2,d3,d4,d5⟩:=okE_ed k4 x.i
      obtain⟨T,hT⟩:=tail_ex ed
      obtain⟨ts,us,N,M,K,D,hkc,hN,hM,h1,h2,hl1⟩:=kc_ed ed x hT d3 d4 d5 (by rw[d1];omega) (by omega)
      rw[d1] at hkc
      exact relexKept_ok l0 ed.new x ts us N M K T D w hkc k1 k2 k3 hl1 hN hM h1 h2
end Go.Proofs.YtnclfgkpcpcapaaGreatDoor
