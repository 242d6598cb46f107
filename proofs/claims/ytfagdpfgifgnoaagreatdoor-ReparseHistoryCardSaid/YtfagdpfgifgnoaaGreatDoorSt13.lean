/- quillwortlaw11.SameTree of two equal rows; ParseTrees: the walk. -/
import Derived.Test.YtfagdpfgifgnoaaGreatDoorNf13
import Derived.Test.YtfagdpfgifgnoaaGreatDoorMb13
import Derived.Test.YtfagdpfgifgnoaaGreatDoorLa9
import Derived.Test.YtfagdpfgifgnoaaGreatDoorMem
import Derived.Test.YtfagdpfgifgnoaaGreatDoorHr9
import Derived.Test.YtfagdpfgifgnoaaGreatDoorCls
import Derived.Test.YtfagdpfgifgnoaaGreatDoorQc13
import Derived.Test.YtfagdpfgifgnoaaGreatDoorEc9
import Derived.Test.YtfagdpfgifgnoaaGreatDoorLf9
import Derived.Test.YtfagdpfgifgnoaaGreatDoorWs13
set_option linter.unusedVariables false
set_option linter.unusedSimpArgs false
set_option maxRecDepth 100000
set_option maxHeartbeats 8000000
namespace Go.Proofs.YtfagdpfgifgnoaaGreatDoor
open Go.RowKit
theorem Dx (ts:List Nd) (A A':Option Addr) (c c':Nat) (w:World) (hl:ts.length≤100000) (h1:Rd w w.heap.size 4 (.slice A ts.length c) ts.length (dt ts)) (h2:Rd w w.heap.size 4 (.slice A' ts.length c') ts.length (dt ts)) :
    iE 11 #[.slice A ts.length c,.slice A' ts.length c'] w (.bool true):=by
  have H0:=Lib.hid (And.intro h1 h2);clear h1 h2;go_enter Tryz.func11,Tryz.ntmps11;go_wp2;go_loopw [5] (fun i wr=>∃k:Nat,k≤ts.length∧i=.int .i64 k∧Below w.heap.size w wr) (fun i _=>ts.length-(intOf i).toNat)
  case atStart=>exact⟨0,Nat.zero_le _,rfl,Below.refl _ _⟩
  case round=>
    obtain⟨k,hk,rfl,hb⟩:=hrel;by_cases hlt:k<ts.length
    ·have u1:(k:Int)<(ts.length:Int):=by omega
     have u2:(0:Int)≤(k:Int):=by omega
     obtain⟨t,ht⟩:∃t,ts[k]? = some t:=⟨_,List.getElem?_eq_getElem hlt⟩;obtain⟨g,o,rfl,_,hc⟩:=bS de (H0.out.1.keep hb (Nat.le_refl _)) ht rfl;obtain⟨g',o',rfl,_,hc'⟩:=bS de (H0.out.2.keep hb (Nat.le_refl _)) ht rfl;have y0:wr.cell? ⟨g,o+k*4,none⟩=some (.int .i64 (t.kd:Int)):=hc 0 _ rfl;have y1:wr.cell? ⟨g,o+k*4+1,none⟩=some (.int .i64 (t.fr:Int)):=hc 1 _ rfl;have y2:wr.cell? ⟨g,o+k*4+2,none⟩=some (.int .i64 (t.tt:Int)):=hc 2 _ rfl;have y3:wr.cell? ⟨g,o+k*4+3,none⟩=some (.int .i64 t.up):=hc 3 _ rfl;have z0:wr.cell? ⟨g',o'+k*4,none⟩=some (.int .i64 (t.kd:Int)):=hc' 0 _ rfl;have z1:wr.cell? ⟨g',o'+k*4+1,none⟩=some (.int .i64 (t.fr:Int)):=hc' 1 _ rfl;have z2:wr.cell? ⟨g',o'+k*4+2,none⟩=some (.int .i64 (t.tt:Int)):=hc' 2 _ rfl;have z3:wr.cell? ⟨g',o'+k*4+3,none⟩=some (.int .i64 t.up):=hc' 3 _ rfl;have HB:=Lib.hid hb;clear hb hc hc' ht;go_wp2_with fail;go_quiet (fail);go_wp2_with fail;exact⟨⟨k+1,by omega,by go_num,ae HB.out _⟩,by simp[intOf]<;>omega⟩
    ·obtain rfl:k=ts.length:=by omega
     have HB:=Lib.hid hb;clear hb;go_wp2_with fail;go_ret;exact⟨rfl,HB.out⟩
def CK (F:List Lf) (z:Int):Bool:=decide (0≤z)&&decide (z<(F.length:Int))&&bH F (eI z.toNat)
theorem vM (F:List Lf) (z:Int) (fv:Value) (w:World) (hF:FB F) (hR:Rd w w.heap.size 4 fv F.length (fh F)) :
    iE 30 #[fv,.int .i64 z] w (.bool (CK F z)):=by
  obtain⟨A,c,rfl⟩:=hR.formm;have HR:=Lib.hid hR;clear hR;obtain⟨b,hb⟩:∃b,b=CK F z:=⟨_,rfl⟩;rw[←hb];by_cases h0:z<0
  ·have hb2:b=false:=by rw[hb];unfold CK;rw[decide_eq_false (by omega)];rfl
   subst hb2;have t0:decide (0≤z)=false:=decide_eq_false (by omega);clear hb;go_enter Tryz.func30,Tryz.ntmps30;go_upto_region 2 with fail
   refine gQ fun W0 hb0 k0 hs0=>?_
   have HB:=Lib.hid hb0;clear hb0 k0 hs0;go_wp2_with fail;go_ret;exact⟨rfl,HB.out⟩
  ·by_cases h1:(F.length:Int)≤z
   ·have hb2:b=false:=by rw[hb];unfold CK;rw[decide_eq_false (p:=z<_) (by omega),Bool.and_false];rfl
    subst hb2;clear hb;go_enter Tryz.func30,Tryz.ntmps30;go_upto_region 2 with fail
    refine gQ fun W0 hb0 k0 hs0=>?_
    have HB:=Lib.hid hb0;clear hb0 k0 hs0;go_wp2_with fail;go_ret;exact⟨rfl,HB.out⟩
   ·obtain⟨a,rfl⟩:∃a:Nat,z=(a:Int):=⟨z.toNat,by omega⟩;have ha:a<F.length:=by omega
    have hb2:b=bH F ⟨a,[],0,0⟩:=by rw[hb];unfold CK;rw[decide_eq_true (by omega),decide_eq_true (by omega),Int.toNat_natCast];rfl
    have HC:=Lib.hid (fun W (h:Mk w.heap.size (.slice A F.length c) F ⟨a,[],0,0⟩ W)=>pO hF h (Nat.le_of_lt ha));have HBB:=Lib.hid hb2;have u1:(a:Int)<(F.length:Int):=by omega
    clear hb hb2 h0 h1;go_enter Tryz.func30,Tryz.ntmps30;go_upto_region 2 with fail
    refine gQ fun W0 hb0 k0 hs0=>?_
    have M0:Mk w.heap.size (.slice A F.length c) F ⟨a,[],0,0⟩ W0:=⟨⟨.slice none 0 0,k0,uH _ _ _ _⟩,HR.out.keep hb0 (Nat.le_refl _)⟩;have HM:=Lib.hid (And.intro M0 hb0);clear hb0 k0 hs0 M0;go_wp2_with (
      (go_at_call 53;refine(HC.out _ HM.out.1).mono ?_;rintro e w1 ⟨rfl,hz⟩;have H1:=Lib.hid (HM.out.2.trans (hz.mono HM.out.2.size));clear hz))
    go_ret;exact⟨by rw[HBB.out];rfl,H1.out⟩
theorem DI (F:List Lf) (z:Int) (fv:Value) (w:World) (hF:FB F) (hR:Rd w w.heap.size 4 fv F.length (fh F)) :
    Calls Tryz.prog 79 #[fv,.int .i64 z] w fun e w'=>(∃v p,e=.returned (.tuple #[v,.int .i64 p])∧((CK F z=false∧v=.slice none 0 0∧p=0)∨(CK F z=true∧p=((cK F z.toNat).p:Int)∧w'.ownsRow w.heap.size 49 4 v (cK F z.toNat).l.length (dt (cK F z.toNat).l))))∧Below w.heap.size w w':=by
  obtain⟨A,c,rfl⟩:=hR.formm;have hn:=hF.n;have c1:=vM F z _ w hF hR;have HR:=Lib.hid hR;clear hR
  cases hb:CK F z
  ·rw[hb] at c1;have HC:=Lib.hid c1;clear c1 hb;go_enter Tryz.func79,Tryz.ntmps79;go_wp2_with (
     (go_at_call 30;refine HC.out.mono ?_;rintro e w1 ⟨rfl,hz⟩;have H1:=Lib.hid hz;clear hz))
   go_ret2;exact⟨⟨_,_,rfl,.inl ⟨trivial,rfl,rfl⟩⟩,H1.out⟩
  ·rw[hb] at c1;unfold CK at hb;simp only[Bool.and_eq_true,decide_eq_true_eq] at hb;obtain⟨⟨h0,h1⟩,h2⟩:=hb;obtain⟨a,rfl⟩:∃a:Nat,z=(a:Int):=⟨z.toNat,by omega⟩;rw[Int.toNat_natCast] at h2 ⊢;have hL:=cy F (F.length+1);have hB0:Bd F 20 (eI a):=⟨by show a≤_;omega,by show 0≤_;omega,by show 0≤200;omega⟩;have c2:∀g W,Mk g (.slice A F.length c) F (eI a) W→Calls Tryz.prog 64 #[.pointer (some ⟨g,0,none⟩),.int .i64 3,.func (.func 100) #[.pointer (some ⟨g,0,none⟩)] #[]] W fun e w'=>e=.returned (.tuple #[])∧Mz g (.slice A F.length c) F W (cK F a) w':=fun g W h=>
     jk (q:=0) hF hL (yF hF (F.length+1) 0 (by omega)) h (Nat.zero_le _) hB0
   have HC:=Lib.hid (And.intro c1 c2);clear c1 c2 hL hB0 h0 h1 h2;go_enter Tryz.func79,Tryz.ntmps79;go_upto_region 4 with (
     (go_at_call 30;refine HC.out.1.mono ?_;rintro e w1 ⟨rfl,hz⟩;have H1:=Lib.hid hz;clear hz))
   refine gQ fun W0 hb0 k0 hs0=>?_
   obtain⟨g,hg⟩:∃g,g=w1.heap.size:=⟨_,rfl⟩;rw[←hg] at k0 ⊢;have hwg:w.heap.size≤g:=by rw[hg];exact H1.out.size
   have hBW:=H1.out.trans (hb0.mono H1.out.size);have M0:Mk g (.slice A F.length c) F (eI a) W0:=⟨⟨.slice none 0 0,k0,uH _ _ _ _⟩,(HR.out.keep hBW (Nat.le_refl _)).mono hwg⟩;have HM:=Lib.hid (And.intro M0 hBW);clear hb0 k0 hs0 M0 hg hBW;go_wp2_with (
     (go_at_call 64;refine(HC.out.2 _ _ HM.out.1).mono ?_;rintro e w2 ⟨rfl,hz⟩;obtain⟨lv,kb,ko⟩:=hz.m.w;obtain⟨d0,d1,d2,d3,d4⟩:=kb.fivem;have gl9:=kb.lt;have H2:=Lib.hid (And.intro ko (HM.out.2.trans (hz.f.hb.mono hwg)));clear hz kb ko))
   try go_quiet (fail)
   go_wp2_with fail;go_ret2
   first
     | exact⟨⟨_,_,rfl,.inr ⟨trivial,rfl,ez H2.out.1 hwg⟩⟩,H2.out.2⟩
     | exact⟨⟨_,_,rfl,.inr ⟨trivial,rfl,ez H2.out.1 hwg⟩⟩,ae H2.out.2 _⟩
end Go.Proofs.YtfagdpfgifgnoaaGreatDoor
