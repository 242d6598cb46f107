/- quillwortlaw11.SameTree of two equal rows; ParseTrees: the walk. -/
import Derived.Test.YtokmnkmpdnlnaaaGreatDoorJf13
import Derived.Test.YtokmnkmpdnlnaaaGreatDoorWs13
namespace Go.Proofs.YtokmnkmpdnlnaaaGreatDoor
open Go.RowKit
set_option linter.unusedVariables false
set_option linter.unusedSimpArgs false
set_option maxRecDepth 100000
set_option maxHeartbeats 1000000 in
theorem sametree_m (ts:List Nd) (A A':Option Addr) (c c':Nat) (w:World) (hl:ts.length≤100000) (h1:Rd w w.heap.size 4 (.slice A ts.length c) ts.length (ndcs ts)) (h2:Rd w w.heap.size 4 (.slice A' ts.length c') ts.length (ndcs ts)) :
    Calls Tryz.prog 12 #[.slice A ts.length c,.slice A' ts.length c'] w fun e w'=>e=.returned (.bool true)∧Below w.heap.size w w':=by
  have H0:=Lib.hid (And.intro h1 h2)
  clear h1 h2
  go_enter Tryz.func12,Tryz.ntmps12
  go_wp2
  go_loopw [5] (fun i wr=>∃k:Nat,k≤ts.length∧i=.int .i64 k∧Below w.heap.size w wr) (fun i _=>ts.length-(intOf i).toNat)
  case atStart=>exact⟨0,Nat.zero_le _,rfl,Below.refl _ _⟩
  case round=>
    obtain⟨k,hk,rfl,hb⟩:=hrel
    by_cases hlt:k<ts.length
    ·have u1:(k:Int)<(ts.length:Int):=by omega
     have u2:(0:Int)≤(k:Int):=by omega
     obtain⟨t,ht⟩:∃t,ts[k]? = some t:=⟨_,List.getElem?_eq_getElem hlt⟩
     obtain⟨g,o,rfl,_,hc⟩:=rd_sat ndc_len (H0.out.1.keep hb (Nat.le_refl _)) ht rfl
     obtain⟨g',o',rfl,_,hc'⟩:=rd_sat ndc_len (H0.out.2.keep hb (Nat.le_refl _)) ht rfl
     have y0:wr.cell? ⟨g,o+k*4,none⟩=some (.int .i64 (t.kd:Int)):=hc 0 _ rfl
     have y1:wr.cell? ⟨g,o+k*4+1,none⟩=some (.int .i64 (t.fr:Int)):=hc 1 _ rfl
     have y2:wr.cell? ⟨g,o+k*4+2,none⟩=some (.int .i64 (t.tt:Int)):=hc 2 _ rfl
     have y3:wr.cell? ⟨g,o+k*4+3,none⟩=some (.int .i64 t.up):=hc 3 _ rfl
     have z0:wr.cell? ⟨g',o'+k*4,none⟩=some (.int .i64 (t.kd:Int)):=hc' 0 _ rfl
     have z1:wr.cell? ⟨g',o'+k*4+1,none⟩=some (.int .i64 (t.fr:Int)):=hc' 1 _ rfl
     have z2:wr.cell? ⟨g',o'+k*4+2,none⟩=some (.int .i64 (t.tt:Int)):=hc' 2 _ rfl
     have z3:wr.cell? ⟨g',o'+k*4+3,none⟩=some (.int .i64 t.up):=hc' 3 _ rfl
     have HB:=Lib.hid hb
     clear hb hc hc' ht
     go_wp2_with fail
     go_quiet (fail)
     go_wp2_with fail
     exact⟨⟨k+1,by omega,by go_num,below_drewN' HB.out _⟩,by simp[intOf]<;>omega⟩
    ·obtain rfl:k=ts.length:=by omega
     have HB:=Lib.hid hb
     clear hb
     go_wp2_with fail
     go_ret
     exact⟨rfl,HB.out⟩
set_option maxHeartbeats 4000000 in
theorem parseTrees_w (F:List Lf) (A:Option Addr) (n c:Nat) (w:World) (hrd:Rd w w.heap.size 4 (.slice A n c) n (lfcs F)) (hn:n=F.length) (hm1:n≤9223372036854775807) :
    Calls Tryz.prog 3 #[.slice A n c] w fun e w'=>e=.returned (.bool true)∧Below w.heap.size w w':=by
  subst hn
  have s1:∀W,Below w.heap.size w W→Calls Tryz.prog 11 #[.slice A F.length c,.int .i64 40] W fun e w'=>e=.returned (.bool (shF F 40))∧w'=W:=
    fun W hW=>short_m F A c 40 W hm1 ((hrd.keep hW (Nat.le_refl _)).mono hW.size)
  cases hsh:shF F 40 with
  | false=>
    rw[hsh] at s1
    have HS:=Lib.hid s1
    clear s1 hrd hsh
    go_enter Tryz.func3,Tryz.ntmps3
    go_wp2_with (first
      | (go_at_call 10
         refine(awake13_c _).mono ?_
         rintro e w1 ⟨rfl,hb⟩
         have H1:=Lib.hid hb
         clear hb)
      | (go_at_call 11
         refine(HS.out _ H1.out).mono ?_
         rintro e w2 ⟨rfl,rfl⟩)
      | fail)
    go_ret
    exact⟨rfl,H1.out⟩
  | true=>
    obtain⟨hl,ht⟩:=shF_fb hsh
    rw[hsh] at s1
    have hF:FB F:=⟨by omega,fun x hx=>by have:=ht x hx;omega⟩
    have hlen:=parse_len F
    have hP:∀W,Below w.heap.size w W→Calls Tryz.prog 13 #[.slice A F.length c] W fun e w'=>∃v,e=.returned v∧w'.ownsRow W.heap.size 32 4 v (parseT F).l.length (ndcs (parseT F).l)∧Below W.heap.size W w':=
      fun W hW=>parse_m F _ W hF ((hrd.keep hW (Nat.le_refl _)).mono hW.size)
    have hR:∀W,Below w.heap.size w W→Calls Tryz.prog 14 #[.slice A F.length c] W fun e w'=>∃v,e=.returned v∧w'.ownsRow W.heap.size 32 4 v (parseT F).l.length (ndcs (parseT F).l)∧Below W.heap.size W w':=
      fun W hW=>rparse_m F _ W hF ((hrd.keep hW (Nat.le_refl _)).mono hW.size)
    obtain⟨L,hL⟩:∃L,L=(parseT F).l:=⟨_,rfl⟩
    rw[←hL] at hP hR hlen
    have hl9:L.length≤100000:=by omega
    have c4:=fun (A1 A2:Option Addr) (c1 c2:Nat) (W:World)=>sametree_m L A1 A2 c1 c2 W hl9
    have HC:=Lib.hid (And.intro s1 (And.intro hP (And.intro hR c4)))
    clear s1 hP hR c4 hrd hsh hL hF ht
    go_enter Tryz.func3,Tryz.ntmps3
    go_wp2_with (first
      | (go_at_call 10
         refine(awake13_c _).mono ?_
         rintro e w1 ⟨rfl,hb⟩
         have H1:=Lib.hid hb
         clear hb)
      | (go_at_call 11
         refine(HC.out.1 _ H1.out).mono ?_
         rintro e w2 ⟨rfl,rfl⟩)
      | (go_at_call 13
         with_reducible refine(HC.out.2.1 _ H1.out).mono ?_
         rintro e w2 ⟨v,rfl,ho,hb⟩
         obtain⟨A2,n2,c2,rfl⟩:=own_form' ho
         have hn2:=own_len ho
         subst hn2
         have H2:=Lib.hid (And.intro (Rd.of_own ho) (H1.out.trans (hb.mono H1.out.size)))
         clear ho hb)
      | (go_at_call 14
         with_reducible refine(HC.out.2.2.1 _ H2.out.2).mono ?_
         rintro e w3 ⟨v,rfl,ho,hb⟩
         obtain⟨A3,n3,c3,rfl⟩:=own_form' ho
         have hn3:=own_len ho
         subst hn3
         have H3:=Lib.hid (And.intro (H2.out.1.next hb) (And.intro (Rd.of_own ho) (H2.out.2.trans (hb.mono H2.out.2.size))))
         clear ho hb)
      | (go_at_call 12
         with_reducible refine(HC.out.2.2.2 _ _ _ _ _ H3.out.1 H3.out.2.1).mono ?_
         rintro e w4 ⟨rfl,hb⟩
         have H4:=Lib.hid (H3.out.2.2.trans (hb.mono H3.out.2.2.size))
         clear hb)
      | fail)
    go_ret
    exact⟨rfl,H4.out⟩
end Go.Proofs.YtokmnkmpdnlnaaaGreatDoor
