/- parse.Begins, parse.Command; ParseCommands: the walk. -/
import Derived.Test.YtokmnkmpdnlnaaaGreatDoorSt13
namespace Go.Proofs.YtokmnkmpdnlnaaaGreatDoor
open Go.RowKit
set_option linter.unusedVariables false
set_option linter.unusedSimpArgs false
set_option maxRecDepth 100000
def bgB (F:List Lf) (z:Int):Bool:=decide (0≤z)&&decide (z<(F.length:Int))&&pipeB F (ps0 z.toNat)
set_option maxHeartbeats 2000000 in
theorem begins_m (F:List Lf) (z:Int) (fv:Value) (w:World) (hF:FB F) (hR:Rd w w.heap.size 4 fv F.length (lfcs F)) :
    Calls Tryz.prog 25 #[fv,.int .i64 z] w fun e w'=>e=.returned (.bool (bgB F z))∧Below w.heap.size w w':=by
  obtain⟨A,c,rfl⟩:=hR.formm
  have HR:=Lib.hid hR
  clear hR
  obtain⟨b,hb⟩:∃b,b=bgB F z:=⟨_,rfl⟩
  rw[←hb]
  by_cases h0:z<0
  ·have hb2:b=false:=by rw[hb];unfold bgB;rw[decide_eq_false (by omega)];rfl
   subst hb2
   have t0:decide (0≤z)=false:=decide_eq_false (by omega)
   clear hb
   go_enter Tryz.func25,Tryz.ntmps25
   go_upto_region 2 with fail
   refine gen1 fun W0 hb0 k0 hs0=>?_
   have HB:=Lib.hid hb0
   clear hb0 k0 hs0
   go_wp2_with fail
   go_ret
   exact⟨rfl,HB.out⟩
  ·by_cases h1:(F.length:Int)≤z
   ·have hb2:b=false:=by rw[hb];unfold bgB;rw[decide_eq_false (p:=z<_) (by omega),Bool.and_false];rfl
    subst hb2
    clear hb
    go_enter Tryz.func25,Tryz.ntmps25
    go_upto_region 2 with fail
    refine gen1 fun W0 hb0 k0 hs0=>?_
    have HB:=Lib.hid hb0
    clear hb0 k0 hs0
    go_wp2_with fail
    go_ret
    exact⟨rfl,HB.out⟩
   ·obtain⟨a,rfl⟩:∃a:Nat,z=(a:Int):=⟨z.toNat,by omega⟩
    have ha:a<F.length:=by omega
    have hb2:b=pipeB F ⟨a,[],0,0⟩:=by rw[hb];unfold bgB;rw[decide_eq_true (by omega),decide_eq_true (by omega),Int.toNat_natCast];rfl
    have HC:=Lib.hid (fun W (h:Mk w.heap.size (.slice A F.length c) F ⟨a,[],0,0⟩ W)=>pipes_m hF h (Nat.le_of_lt ha))
    have HBB:=Lib.hid hb2
    have u1:(a:Int)<(F.length:Int):=by omega
    clear hb hb2 h0 h1
    go_enter Tryz.func25,Tryz.ntmps25
    go_upto_region 2 with fail
    refine gen1 fun W0 hb0 k0 hs0=>?_
    have M0:Mk w.heap.size (.slice A F.length c) F ⟨a,[],0,0⟩ W0:=⟨⟨.slice none 0 0,k0,own_nil _ _ _ _⟩,HR.out.keep hb0 (Nat.le_refl _)⟩
    have HM:=Lib.hid (And.intro M0 hb0)
    clear hb0 k0 hs0 M0
    go_wp2_with (
      (go_at_call 44
       refine(HC.out _ HM.out.1).mono ?_
       rintro e w1 ⟨rfl,hz⟩
       have H1:=Lib.hid (HM.out.2.trans (hz.mono HM.out.2.size))
       clear hz))
    go_ret
    exact⟨by rw[HBB.out];rfl,H1.out⟩
set_option maxHeartbeats 2000000 in
theorem pcommand_m (F:List Lf) (z:Int) (fv:Value) (w:World) (hF:FB F) (hR:Rd w w.heap.size 4 fv F.length (lfcs F)) :
    Calls Tryz.prog 23 #[fv,.int .i64 z] w fun e w'=>(∃v p,e=.returned (.tuple #[v,.int .i64 p])∧((bgB F z=false∧v=.slice none 0 0∧p=0)∨(bgB F z=true∧p=((cmdT F z.toNat).p:Int)∧w'.ownsRow w.heap.size 32 4 v (cmdT F z.toNat).l.length (ndcs (cmdT F z.toNat).l))))∧Below w.heap.size w w':=by
  obtain⟨A,c,rfl⟩:=hR.formm
  have hn:=hF.n
  have c1:=begins_m F z _ w hF hR
  have HR:=Lib.hid hR
  clear hR
  cases hb:bgB F z
  ·rw[hb] at c1
   have HC:=Lib.hid c1
   clear c1 hb
   go_enter Tryz.func23,Tryz.ntmps23
   go_wp2_with (
     (go_at_call 25
      refine HC.out.mono ?_
      rintro e w1 ⟨rfl,hz⟩
      have H1:=Lib.hid hz
      clear hz))
   go_ret2
   exact⟨⟨_,_,rfl,.inl ⟨trivial,rfl,rfl⟩⟩,H1.out⟩
  ·rw[hb] at c1
   unfold bgB at hb
   simp only[Bool.and_eq_true,decide_eq_true_eq] at hb
   obtain⟨⟨h0,h1⟩,h2⟩:=hb
   obtain⟨a,rfl⟩:∃a:Nat,z=(a:Int):=⟨z.toNat,by omega⟩
   rw[Int.toNat_natCast] at h2 ⊢
   have hL:=gd_lstF F (F.length+1)
   have hB0:Bd F 20 (ps0 a):=⟨by show a≤_;omega,by show 0≤_;omega,by show 0≤200;omega⟩
   have c2:∀g W,Mk g (.slice A F.length c) F (ps0 a) W→Calls Tryz.prog 27 #[.pointer (some ⟨g,0,none⟩),.int .i64 3,.func (.func 43) #[.pointer (some ⟨g,0,none⟩)] #[]] W fun e w'=>e=.returned (.tuple #[])∧Mz g (.slice A F.length c) F W (cmdT F a) w':=fun g W h=>
     nodeA_m (q:=0) hF hL (list_m hF (F.length+1) 0 (by omega)) h (Nat.zero_le _) hB0
   have HC:=Lib.hid (And.intro c1 c2)
   clear c1 c2 hL hB0 h0 h1 h2
   go_enter Tryz.func23,Tryz.ntmps23
   go_upto_region 4 with (
     (go_at_call 25
      refine HC.out.1.mono ?_
      rintro e w1 ⟨rfl,hz⟩
      have H1:=Lib.hid hz
      clear hz))
   refine gen1 fun W0 hb0 k0 hs0=>?_
   obtain⟨g,hg⟩:∃g,g=w1.heap.size:=⟨_,rfl⟩
   rw[←hg] at k0 ⊢
   have hwg:w.heap.size≤g:=by rw[hg];exact H1.out.size
   have hBW:=H1.out.trans (hb0.mono H1.out.size)
   have M0:Mk g (.slice A F.length c) F (ps0 a) W0:=⟨⟨.slice none 0 0,k0,own_nil _ _ _ _⟩,(HR.out.keep hBW (Nat.le_refl _)).mono hwg⟩
   have HM:=Lib.hid (And.intro M0 hBW)
   clear hb0 k0 hs0 M0 hg hBW
   go_wp2_with (
     (go_at_call 27
      refine(HC.out.2 _ _ HM.out.1).mono ?_
      rintro e w2 ⟨rfl,hz⟩
      obtain⟨lv,kb,ko⟩:=hz.m.w
      obtain⟨d0,d1,d2,d3,d4⟩:=kb.fivem
      have gl9:=kb.lt
      have H2:=Lib.hid (And.intro ko (HM.out.2.trans (hz.f.hb.mono hwg)))
      clear hz kb ko))
   try go_quiet (fail)
   go_wp2_with fail
   go_ret2
   first
     | exact⟨⟨_,_,rfl,.inr ⟨trivial,rfl,own_base H2.out.1 hwg⟩⟩,H2.out.2⟩
     | exact⟨⟨_,_,rfl,.inr ⟨trivial,rfl,own_base H2.out.1 hwg⟩⟩,below_drewN' H2.out.2 _⟩
theorem cmd_len (F:List Lf) {a:Nat} (ha:a≤F.length):(cmdT F a).l.length≤16*F.length+3:=by
  have h:=gd_cmd F ha
  have h1:=h.b
  have h2:=h.N
  have e:(ps0 a).l.length=0:=rfl
  omega
set_option maxHeartbeats 8000000 in
theorem parseCommands_w (F:List Lf) (A:Option Addr) (n c:Nat) (z:Int) (w:World) (hrd:Rd w w.heap.size 4 (.slice A n c) n (lfcs F)) (hn:n=F.length) (hm1:n≤9223372036854775807) (hx : -9223372036854775808≤z∧z≤9223372036854775807) :
    Calls Tryz.prog 9 #[.slice A n c,.int .i64 z] w fun e w'=>e=.returned (.bool true)∧Below w.heap.size w w':=by
  subst hn
  have s1:∀W,Below w.heap.size w W→Calls Tryz.prog 11 #[.slice A F.length c,.int .i64 40] W fun e w'=>e=.returned (.bool (shF F 40))∧w'=W:=
    fun W hW=>short_m F A c 40 W hm1 ((hrd.keep hW (Nat.le_refl _)).mono hW.size)
  cases hsh:shF F 40 with
  | false=>
    rw[hsh] at s1
    have HS:=Lib.hid s1
    clear s1 hrd hsh
    go_enter Tryz.func9,Tryz.ntmps9
    go_wp2_with (first
      | (go_at_call 10
         refine(awake13_c _).mono ?_
         rintro e w1 ⟨rfl,hb⟩
         have H1:=Lib.hid hb
         clear hb)
      | (go_at_call 11
         refine(HS.out _ H1.out).mono ?_
         rintro e w2 ⟨rfl,rfl⟩)
      | fail)
    go_ret
    exact⟨rfl,H1.out⟩
  | true=>
    obtain⟨hl,ht⟩:=shF_fb hsh
    rw[hsh] at s1
    have hF:FB F:=⟨by omega,fun x hx=>by have:=ht x hx;omega⟩
    have hrw:∀W,Below w.heap.size w W→Rd W W.heap.size 4 (.slice A F.length c) F.length (lfcs F):=fun W hW=>(hrd.keep hW (Nat.le_refl _)).mono hW.size
    have hP:=fun W hW=>pcommand_m F z _ W hF (hrw W hW)
    have hB:=fun W hW=>begins_m F z _ W hF (hrw W hW)
    cases hb:bgB F z with
    | true=>
      rw[hb] at hB hP
      unfold bgB at hb
      simp only[Bool.and_eq_true,decide_eq_true_eq] at hb
      obtain⟨⟨h0,h1⟩,h2⟩:=hb
      obtain⟨a,rfl⟩:∃a:Nat,z=(a:Int):=⟨z.toNat,by omega⟩
      rw[Int.toNat_natCast] at h2 hP
      have ha:a<F.length:=by omega
      have hlen:=cmd_len F (Nat.le_of_lt ha)
      have hRB:=fun W hW=>rbegins_m F _ W hF (hrw W hW) a ha
      rw[h2] at hRB
      have hRC:=fun W hW=>rcommand_m F _ W hF (hrw W hW) a ha h2
      obtain⟨L,hL⟩:∃L,L=(cmdT F a).l:=⟨_,rfl⟩
      obtain⟨P,hPe⟩:∃P:Int,P=((cmdT F a).p:Int):=⟨_,rfl⟩
      rw[←hL] at hP hRC hlen
      rw[←hPe] at hP hRC
      have hl9:L.length≤100000:=by omega
      have c4:=fun (A1 A2:Option Addr) (c1 c2:Nat) (W:World)=>sametree_m L A1 A2 c1 c2 W hl9
      have HC:=Lib.hid (And.intro s1 (And.intro hP (And.intro hB (And.intro hRB (And.intro hRC c4)))))
      have t0:decide ((a:Int)<0)=false:=decide_eq_false (by omega)
      clear s1 hP hB hRB hRC c4 hrd hsh hL hF ht hrw hPe h2
      go_enter Tryz.func9,Tryz.ntmps9
      go_wp2_with (first
        | (go_at_call 10
           refine(awake13_c _).mono ?_
           rintro e w1 ⟨rfl,hb⟩
           have H1:=Lib.hid hb
           clear hb)
        | (go_at_call 11
           refine(HC.out.1 _ H1.out).mono ?_
           rintro e w2 ⟨rfl,rfl⟩)
        | (go_at_call 23
           with_reducible refine(HC.out.2.1 _ H1.out).mono ?_
           rintro e w2 ⟨⟨v,p,rfl,(⟨hbb,_⟩|⟨_,rfl,ho⟩)⟩,hb⟩
           ·exact absurd hbb (by decide)
           obtain⟨A2,n2,c2,rfl⟩:=own_form' ho
           have hn2:=own_len ho
           subst hn2
           have H2:=Lib.hid (And.intro (Rd.of_own ho) (H1.out.trans (hb.mono H1.out.size)))
           clear ho hb)
        | (go_at_call 24
           with_reducible refine(HC.out.2.2.2.1 _ H2.out.2).mono ?_
           rintro e w3 ⟨rfl,hb⟩
           have H3:=Lib.hid (And.intro (H2.out.1.next hb) (H2.out.2.trans (hb.mono H2.out.2.size)))
           clear hb)
        | (go_at_call 26
           with_reducible refine(HC.out.2.2.2.2.1 _ H3.out.2).mono ?_
           rintro e w4 ⟨v,rfl,ho,hb⟩
           obtain⟨A4,n4,c4,rfl⟩:=own_form' ho
           have hn4:=own_len ho
           subst hn4
           have H4:=Lib.hid (And.intro (H3.out.1.next hb) (And.intro (Rd.of_own ho) (H3.out.2.trans (hb.mono H3.out.2.size))))
           clear ho hb)
        | (go_at_call 25
           with_reducible refine(HC.out.2.2.1 _ H4.out.2.2).mono ?_
           rintro e w5 ⟨rfl,hb⟩
           have H5:=Lib.hid (And.intro (H4.out.1.next hb) (And.intro (H4.out.2.1.next hb) (H4.out.2.2.trans (hb.mono H4.out.2.2.size))))
           clear hb)
        | (go_at_call 12
           with_reducible refine(HC.out.2.2.2.2.2 _ _ _ _ _ H5.out.1 H5.out.2.1).mono ?_
           rintro e w6 ⟨rfl,hb⟩
           have H6:=Lib.hid (H5.out.2.2.trans (hb.mono H5.out.2.2.size))
           clear hb)
        | fail)
      go_ret
      exact⟨by simp,H6.out⟩
    | false=>
      rw[hb] at hB hP
      have key:z<0∨(¬z<0∧(F.length:Int)≤z)∨(∃a:Nat,z=(a:Int)∧a<F.length∧pipeB F (ps0 a)=false):=by
        by_cases h0:z<0
        ·exact .inl h0
        ·by_cases h1:(F.length:Int)≤z
         ·exact .inr (.inl ⟨h0,h1⟩)
         ·refine .inr (.inr ⟨z.toNat,by omega,by omega,?_⟩)
          unfold bgB at hb
          rw[decide_eq_true (by omega),decide_eq_true (by omega)] at hb
          exact hb
      clear hb
      rcases key with h0|⟨h0,h1⟩|⟨a,rfl,ha,h2⟩
      case' inl=>
        have t0:decide (z<0)=true:=decide_eq_true h0
        have HC:=Lib.hid (And.intro s1 (And.intro hP hB))
        have HR:=Lib.hid True.intro
        clear s1 hP hB hrd hsh hF ht hrw
      case' inr.inl=>
        have t0:decide (z<0)=false:=decide_eq_false h0
        have HC:=Lib.hid (And.intro s1 (And.intro hP hB))
        have HR:=Lib.hid True.intro
        clear s1 hP hB hrd hsh hF ht hrw
      case' inr.inr=>
        have hRB:=fun W hW=>rbegins_m F _ W hF (hrw W hW) a ha
        rw[h2] at hRB
        have t0:decide ((a:Int)<0)=false:=decide_eq_false (by omega)
        have u1:(a:Int)<(F.length:Int):=by omega
        have HC:=Lib.hid (And.intro s1 (And.intro hP hB))
        have HR:=Lib.hid hRB
        clear s1 hP hB hrd hsh hF ht hrw h2 hRB
      all_goals (
        go_enter Tryz.func9,Tryz.ntmps9
        go_wp2_with (first
          | (go_at_call 10
             refine(awake13_c _).mono ?_
             rintro e w1 ⟨rfl,hb⟩
             have H1:=Lib.hid hb
             have H3:=H1
             clear hb)
          | (go_at_call 11
             refine(HC.out.1 _ H1.out).mono ?_
             rintro e w2 ⟨rfl,rfl⟩)
          | (go_at_call 23
             with_reducible refine(HC.out.2.1 _ H1.out).mono ?_
             rintro e w2 ⟨⟨v,p,rfl,(⟨_,rfl,rfl⟩|⟨hbb,_⟩)⟩,hb⟩
             rotate_left
             ·exact absurd hbb (by decide)
             have H2:=Lib.hid (H1.out.trans (hb.mono H1.out.size))
             replace H3:=H2
             clear hb)
          | (go_at_call 24
             with_reducible refine(HR.out _ H2.out).mono ?_
             rintro e w3 ⟨rfl,hb⟩
             replace H3:=Lib.hid (H2.out.trans (hb.mono H2.out.size))
             clear hb)
          | (go_at_call 25
             with_reducible refine(HC.out.2.2 _ H3.out).mono ?_
             rintro e w5 ⟨rfl,hb⟩
             have H5:=Lib.hid (H3.out.trans (hb.mono H3.out.size))
             clear hb)
          | fail)
        go_ret
        exact⟨by simp,H5.out⟩)
end Go.Proofs.YtokmnkmpdnlnaaaGreatDoor
