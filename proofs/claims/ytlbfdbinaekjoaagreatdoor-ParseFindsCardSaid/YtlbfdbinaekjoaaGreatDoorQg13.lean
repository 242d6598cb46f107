/- quillwortlaw13.awake, and ParseFaults: the walks. -/
import Derived.Test.YtlbfdbinaekjoaaGreatDoorQf13
namespace Go.Proofs.YtlbfdbinaekjoaaGreatDoor
open Go.RowKit
set_option linter.unusedVariables false
set_option linter.unusedSimpArgs false
set_option maxRecDepth 100000
def awk13:List UInt8:=[105,102,32,97,59,32,116,104,101,110]
theorem awk13_flt:fltK ((parseT (lvs3 awk13)).l.map nz) ((parseT (lvs3 awk13)).l.map nz).length=[10,11]:=by kernel_rfl
set_option maxHeartbeats 2000000 in
theorem awake13_c (w:World):Calls Tryz.prog 4 #[] w fun e w'=>e=.returned (.bool true)∧Below w.heap.size w w':=by
  obtain⟨Z,hZ⟩:∃Z,Z=(parseT (lvs3 awk13)).l.map nz:=⟨_,rfl⟩
  obtain⟨N,hN⟩:∃N,N=(parseT (lvs3 awk13)).l.length:=⟨_,rfl⟩
  have hzl:Z.length=N:=by rw[hZ,hN,List.length_map]
  have hN9:N≤100000:=by
    have h1:=parse_len (lvs3 awk13)
    have h2:=(lvs3_fb awk13 (by decide)).n
    omega
  have hf:fltK Z Z.length=[10,11]:=by rw[hZ];exact awk13_flt
  have c1:∀W,Calls Tryz.prog 9 #[.string ⟨#[105,102,32,97,59,32,116,104,101,110]⟩] W fun e w'=>∃v1 v2,e=.returned (.tuple #[v1,v2])∧w'.ownsRow W.heap.size 38 4 v2 N (nzcs Z)∧Below W.heap.size W w':=fun W=>by
    refine(pof_m awk13 W (by decide)).mono ?_
    rintro e w' ⟨v1,v2,rfl,_,h2,h3⟩
    rw[ndcs_nz,←hZ,←hN] at h2
    exact⟨v1,v2,rfl,h2,h3⟩
  have c2:∀(A:Option Addr) (c:Nat) W,Rd W W.heap.size 4 (.slice A N c) N (nzcs Z)→Calls Tryz.prog 10 #[.slice A N c] W fun e w'=>∃v,e=.returned v∧w'.ownsRow W.heap.size 3 1 v 2 (ics [10,11])∧Below W.heap.size W w':=fun A c W hR=>by
    have h:=faults_m c Z A W (by omega) (by rw[hzl];exact hR)
    rw[hf,hzl] at h
    exact h
  have c3:∀(A:Option Addr) (c:Nat) W,Rd W W.heap.size 4 (.slice A N c) N (nzcs Z)→Calls Tryz.prog 11 #[.slice A N c] W fun e w'=>e=.returned (.bool false)∧Below W.heap.size W w':=fun A c W hR=>by
    have h:=clean_m c Z A W (by omega) (by rw[hzl];exact hR)
    rw[hf,hzl] at h
    exact h
  have HC:=Lib.hid (And.intro c1 (And.intro c2 c3))
  clear c1 c2 c3 hf hzl hZ hN hN9
  go_enter Tryz.func4,Tryz.ntmps4
  go_wp2_with (first
    | (go_at_call 9
       with_reducible refine(HC.out.1 _).mono ?_
       rintro e w1 ⟨v1,v2,rfl,ho,hb⟩
       obtain⟨A1,n1,c1,rfl⟩:=own_form' ho
       obtain rfl:=own_len ho
       have H1:=Lib.hid (And.intro ho hb)
       clear ho hb)
    | (go_at_call 10
       refine(HC.out.2.1 _ _ _ (Rd.of_own H1.out.1)).mono ?_
       rintro e w2 ⟨v,rfl,ho,hb⟩
       obtain⟨A2,n2,c2,rfl⟩:=own_form' ho
       have hn2:=own_len ho
       subst hn2
       have H2:=Lib.hid (And.intro (own_below H1.out.1 hb) (H1.out.2.trans (hb.mono H1.out.2.size)))
       clear ho hb)
    | (go_at_call 11
       refine(HC.out.2.2 _ _ _ (Rd.of_own H2.out.1)).mono ?_
       rintro e w3 ⟨rfl,hb⟩
       have H3:=Lib.hid (H2.out.2.trans (hb.mono H2.out.2.size))
       clear hb)
    | fail)
  go_ret
  exact⟨rfl,H3.out⟩
end Go.Proofs.YtlbfdbinaekjoaaGreatDoor
