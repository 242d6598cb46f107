/- Of Qa13 and Qb13: the parser's program_m and parse.Parse, which the base leaves out. -/
import Derived.Test.YtfagdpfgifgnoaaGreatDoorQc13
import Derived.Test.YtfagdpfgifgnoaaGreatDoorUt14
import Derived.Test.YtfagdpfgifgnoaaGreatDoorCm10
import Derived.Test.YtfagdpfgifgnoaaGreatDoorSm9
import Derived.Test.YtfagdpfgifgnoaaGreatDoorEc9
import Derived.Deep.DeepCutAuto
import Derived.Deep.CutBlock
import Derived.Deep.RegionHeld3
namespace Go.Proofs.YtfagdpfgifgnoaaGreatDoor
open Go.RowKit
set_option linter.unusedVariables false
set_option linter.unusedSimpArgs false
set_option maxRecDepth 100000
theorem leaf17_m {g:Nat} {fv:Value} {F:List Lf} {s:Ps} {W:World} (hF:FB F) (h:Mk g fv F s W) (hB:Bd F 100 s) (hs:s.p<F.length) :
    Calls Tryz.prog 89 #[.pointer (some ⟨g,0,none⟩),.int .i64 17] W fun e w'=>e=.returned (.tuple #[])∧Mz g fv F W (aD 17 s) w':=tI 17 (by omega) hF h hB hs
theorem prog_end {F:List Lf} {L:Ps→Ps} (hL:GL F L) {u:Ps} {b:Bool} (h:u.p≤F.length) (hp:¬u.p<F.length):eV F L (u,b)=(u,b):=by
  have h0:sg F u.p=0:=by unfold sg;rw[List.getElem?_eq_none (by omega)]
  have c1:am F [110] u=false:=by unfold am;rw[h0];rfl
  have c2:bH F u=false:=Bool.eq_false_iff.2 fun h=>hp (BE h)
  have e:bV F L (u,b)=((u,b),false):=by
    unfold bV;simp only[c1,c2,Bool.and_false,if_false,Bool.false_eq_true];rw[if_neg hp]
  rw[fI hL _ h,e];rfl
def pMs (v:Value):Nat:=match v with | .bool true=>1|_=>0
set_option maxHeartbeats 4000000 in
theorem program_m {g:Nat} {fv:Value} {F:List Lf} {L:Ps→Ps} {q:Nat} {s T:Ps} {W:World} (hF:FB F) (hL:GL F L) (HL:cJ g fv F L q) (h:Mk g fv F s W) (hq:q=0) (hB:Bd F 5 s) (hPg:Pg F L T s false) :
    Calls Tryz.prog 65 #[.pointer (some ⟨g,0,none⟩)] W fun e w'=>e=.returned (.tuple #[])∧Mz g fv F W (T) w':=by
  have hn:=hF.n;have H0:=Lib.hid (Mz.start h);clear h hB;go_enter Tryz.func65,Tryz.ntmps65;go_wp2_with fail;go_loopw [2] (fun v wr=>∃(u:Ps) (b:Bool),v=.bool b∧Pg F L T u b∧Mz g fv F W u wr) (fun v wr=>2*F.length+2-(2*pOf g wr+pMs v))
  case atStart=>exact⟨s,false,rfl,hPg,H0.out⟩
  case round=>
    obtain⟨u,b,rfl,hPu,hz⟩:=hrel;have U0:=Lib.hid hz;have hup:=hz.m.pOf;have HP:=Lib.hid hup;have HS:=Lib.hid hPu;have hBu:=hPu.bd;obtain⟨y0,y1,_⟩:=hz.m.cells;obtain⟨A,c,hfv⟩:=hz.m.f.formm;rw[hfv] at y0;have hup:=hPu.p;clear hz hPu hfv;have qd:∀n,Mz g fv F W u (wr.drewN n):=fun n=>U0.out.drew n
    have QD:=Lib.hid qd;clear qd;by_cases hlt:u.p<F.length
    ·have u1:(u.p:Int)<(F.length:Int):=by omega
     have d1:decide ((u.p:Int)<(F.length:Int))=true:=decide_eq_true u1
     cases hc:am F [110] u
     ·cases b
      ·cases hp:bH F u
       ·have hst:=HS.out.step hL (t:=aD 17 u) (b':=false) (by unfold bV;simp only[hc,hp,hlt,Bool.and_false,if_true,if_false,Bool.false_eq_true]);have HG:=Lib.hid hst;clear hst;have NC1:=Lib.hid (fun W1 (h1:Mk g fv F (u) W1)=>bB hF h1 hBu.p [110] (by decide) hc);have NC2:=Lib.hid (fun W1 (h1:Mk g fv F (u) W1)=>iS hF h1 hBu.p hp);have NC3:=Lib.hid (fun W1 (h1:Mk g fv F (u) W1)=>leaf17_m hF h1 (hBu.mono (by omega)) hlt);go_wp2_with fail;go_quiet (fail);have D0:=Lib.hid (QD.out nq)
        go_wp2_with (first
          | (go_at_call 87;with_reducible refine(NC1.out _ D0.out.m).mono ?_
             rintro e nw1 ⟨rfl,hz⟩;have N1:=Lib.hid (D0.out.then hz);clear hz)
          | (go_at_call 53;with_reducible refine(NC2.out _ N1.out.m).mono ?_
             rintro e nw2 ⟨rfl,hz⟩;have N2:=Lib.hid (N1.out.then hz);clear hz)
          | (go_at_call 89;with_reducible refine(NC3.out _ N2.out.m).mono ?_
             rintro e nw3 ⟨rfl,hz⟩;have N3:=Lib.hid (N2.out.then hz);clear hz)
          | fail)
        refine⟨⟨_,_,rfl,HG.out.1,N3.out⟩,?_⟩;rw[N3.out.m.pOf,HP.out];have h1:=HG.out.2;have h2:=HG.out.1.p;unfold fJ at h1;simp only[Bool.false_eq_true,if_true,if_false] at h1;simp only[pMs];omega
       ·have hst:=HS.out.step hL (t:=an 2 L u) (b':=true) (by unfold bV;simp only[hc,hp,Bool.not_false,Bool.true_and,Bool.and_self,if_true,if_false,Bool.false_eq_true]);have HG:=Lib.hid hst;clear hst;have NC1:=Lib.hid (fun W1 (h1:Mk g fv F (u) W1)=>bB hF h1 hBu.p [110] (by decide) hc);have NC2:=Lib.hid (fun W1 (h1:Mk g fv F (u) W1)=>iR hF h1 hBu.p hp);have NC3:=Lib.hid (fun W1 (h1:Mk g fv F (u) W1)=>uK hF hL HL h1 (by omega) (hBu.mono (by omega)));go_wp2_with fail;go_quiet (fail);have D0:=Lib.hid (QD.out nq)
        go_wp2_with (first
          | (go_at_call 87;with_reducible refine(NC1.out _ D0.out.m).mono ?_
             rintro e nw1 ⟨rfl,hz⟩;have N1:=Lib.hid (D0.out.then hz);clear hz)
          | (go_at_call 53;with_reducible refine(NC2.out _ N1.out.m).mono ?_
             rintro e nw2 ⟨rfl,hz⟩;have N2:=Lib.hid (N1.out.then hz);clear hz)
          | (go_at_call 64;with_reducible refine(NC3.out _ N2.out.m).mono ?_
             rintro e nw3 ⟨rfl,hz⟩;have N3:=Lib.hid (N2.out.then hz);clear hz)
          | fail)
        refine⟨⟨_,_,rfl,HG.out.1,N3.out⟩,?_⟩;rw[N3.out.m.pOf,HP.out];have h1:=HG.out.2;have h2:=HG.out.1.p;unfold fJ at h1;simp only[Bool.false_eq_true,if_true,if_false] at h1;simp only[pMs];omega
      ·have hst:=HS.out.step hL (t:=aD 17 u) (b':=false) (by unfold bV;simp only[hc,hlt,Bool.not_true,Bool.false_and,if_true,if_false,Bool.false_eq_true]);have HG:=Lib.hid hst;clear hst;have NC1:=Lib.hid (fun W1 (h1:Mk g fv F (u) W1)=>bB hF h1 hBu.p [110] (by decide) hc);have NC2:=Lib.hid (fun W1 (h1:Mk g fv F (u) W1)=>leaf17_m hF h1 (hBu.mono (by omega)) hlt);go_wp2_with fail;go_quiet (fail);have D0:=Lib.hid (QD.out nq)
       go_wp2_with (first
         | (go_at_call 87;with_reducible refine(NC1.out _ D0.out.m).mono ?_
            rintro e nw1 ⟨rfl,hz⟩;have N1:=Lib.hid (D0.out.then hz);clear hz)
         | (go_at_call 89;with_reducible refine(NC2.out _ N1.out.m).mono ?_
            rintro e nw2 ⟨rfl,hz⟩;have N2:=Lib.hid (N1.out.then hz);clear hz)
         | fail)
       refine⟨⟨_,_,rfl,HG.out.1,N2.out⟩,?_⟩;rw[N2.out.m.pOf,HP.out];have h1:=HG.out.2;have h2:=HG.out.1.p;unfold fJ at h1;simp only[Bool.false_eq_true,if_true,if_false] at h1;simp only[pMs];omega
     ·cases b;have hst:=HS.out.step hL (t:=ai u) (b':=false) (by unfold bV;simp only[hc,if_true])
      rotate_left
      have hst:=HS.out.step hL (t:=ai u) (b':=true) (by unfold bV;simp only[hc,if_true])
      rotate_left
      all_goals (
        have HG:=Lib.hid hst;clear hst;have NC1:=Lib.hid (fun W1 (h1:Mk g fv F (u) W1)=>bW hF h1 hBu.p [110] (by decide) hc);go_wp2_with fail;go_quiet (fail);have D0:=Lib.hid (QD.out nq);go_wp2_with (
          (go_at_call 87;with_reducible refine(NC1.out _ D0.out.m).mono ?_
           rintro e nw1 ⟨rfl,hz⟩;have N1:=Lib.hid (D0.out.then hz);clear hz))
        refine⟨⟨_,_,rfl,HG.out.1,N1.out⟩,?_⟩;rw[N1.out.m.pOf,HP.out];have h1:=HG.out.2;have h2:=HG.out.1.p;unfold fJ at h1;simp only[Bool.false_eq_true,if_true,if_false] at h1;simp only[pMs];omega)
    ·have u1:¬(u.p:Int)<(F.length:Int):=by omega
     have d1:decide ((u.p:Int)<(F.length:Int))=false:=decide_eq_false u1;go_wp2_with fail;go_quiet (fail);go_wp2_with fail;first|go_end0|refine bodyPost_ret (results_none rfl _ _ _) rfl ?_
     exact⟨rfl,by rw[←HS.out.t,prog_end hL hup hlt];exact QD.out _⟩
set_option maxHeartbeats 2000000 in
theorem parse_m (F:List Lf) (fv:Value) (w:World) (hF:FB F) (hR:Rd w w.heap.size 4 fv F.length (fh F)) :
    Calls Tryz.prog 43 #[fv] w fun e w'=>∃v,e=.returned v∧w'.ownsRow w.heap.size 49 4 v (cE F).l.length (dt (cE F).l)∧Below w.heap.size w w':=by
  have hL:=cy F (F.length+1);have hi:Bd F 1 (ma 1 (eI 0)):=⟨Nat.zero_le _,by show (([]:List Nd)++[_]).length≤46*0+1;simp,by show 0≤200;omega⟩;have hg:=uS hL _ (ma 1 (eI 0),false) rfl hi.p;have hn:=hF.n;have hx:∀W0,Mk w.heap.size fv F (eI 0) W0→Calls Tryz.prog 64 #[.pointer (some ⟨w.heap.size,0,none⟩),.int .i64 1,.func (.func 65) #[.pointer (some ⟨w.heap.size,0,none⟩)] #[]] W0 fun e w'=>e=.returned (.tuple #[])∧Mz w.heap.size fv F W0 (cE F) w':=fun W0 h0=>by
    have h1:=hg.1.l;have h2:=hg.2;have h3:(ma 1 (eI 0)).l.length=1:=rfl;rw[h3] at h1
    exact pV (t:=(eV F (iG F) (ma 1 (eI 0),false)).1) 1 _ h0 (by show 0≤50000;omega) (by omega) (enters_of Tryz.func65 (by kernel_rfl) rfl)
      (fun W1 z1=>program_m (q:=0) hF hL (yF hF (F.length+1) 0 (by omega)) z1.m rfl (hi.mono (by omega)) ⟨hi.p,hi.d,by show 1+4≤16*0+5;omega,rfl⟩) (Nat.lt_of_lt_of_le Nat.zero_lt_one h1) (by show (eV F (ef F (F.length+1)) (ma 1 (eI 0),false)).1.p≤100000;rw[h2];omega)
  obtain⟨A,c,rfl⟩:=hR.formm;have HX:=Lib.hid hx;have HR:=Lib.hid hR;clear hx hR hg hi hL;go_enter Tryz.func43,Tryz.ntmps43;go_upto_region 2 with fail
  refine gQ fun W0 hb0 k0 hs0=>?_
  have M0:Mk w.heap.size _ F (eI 0) W0:=⟨⟨.slice none 0 0,k0,uH _ _ _ _⟩,HR.out.keep hb0 (Nat.le_refl _)⟩;have HM:=Lib.hid M0;have HB:=Lib.hid hb0;clear hb0 k0 hs0 M0;go_wp2_with (
    (go_at_call 64;refine(HX.out _ HM.out).mono ?_;rintro e w1 ⟨rfl,hz⟩;obtain⟨lv,hb1,ho1⟩:=hz.m.w;obtain⟨c0,c1,c2,c3,c4⟩:=hb1.fivem;have H1:=Lib.hid (And.intro hz.f.hb ho1);clear hz hb1 ho1))
  go_ret;exact⟨_,rfl,H1.out.2,HB.out.trans H1.out.1⟩
end Go.Proofs.YtfagdpfgifgnoaaGreatDoor
namespace Go.Proofs.YtfagdpfgifgnoaaGreatDoor
open Go.RowKit
set_option linter.unusedVariables false
set_option linter.unusedSimpArgs false
set_option maxRecDepth 100000
def lvs14 (l:List UInt8):List Lf:=di l ((dV l).1.map tz)
theorem lvs14_tx (l:List UInt8) (ts:List Tz):∀x∈di l ts,x.tx.length≤l.length:=by
  intro x hx;obtain⟨t,_,ht⟩:=List.mem_flatMap.1 hx;unfold nw at ht;split at ht
  ·simp only[List.mem_singleton] at ht;subst ht;show (Ew l t).length≤_;unfold Ew;split
   ·unfold sub;rw[List.length_drop,List.length_take];omega
   ·exact Nat.zero_le _
  ·simp at ht
theorem lex14_len (l:List UInt8):(dV l).1.length≤l.length:=by
  rw[show (dV l).1=(jC l 0 iV).1 from rfl,xZ l 0 iV,List.length_map];exact Nat.le_trans (pM l 0 iV) (by omega)
theorem lvs14_fb (l:List UInt8) (hl:l.length≤900):FB (lvs14 l):=by
  refine⟨?_,fun x hx=>Nat.le_trans (lvs14_tx l _ x hx) (by omega)⟩;have h1:=l9 l ((dV l).1.map tz);have h2:=lex14_len l;rw[List.length_map] at h1;exact Nat.le_trans h1 (by omega)
theorem dleaves_m (g:Nat) (l:List UInt8) (w:World) (hD:mE w g l) (hl:l.length≤900) :
    Calls Tryz.prog 42 #[.pointer (some ⟨g,0,none⟩)] w fun e w'=>∃v,e=.returned v∧w'.ownsRow w.heap.size 61 4 v (lvs14 l).length (fh (lvs14 l))∧Below w.heap.size w w':=by
  obtain⟨xs,lv,pv,hpr,hD,hr⟩:=hD;have h2:=lex14_len l;have htk:=uq hpr;have htl:(dV l).1.length=xs.length:=by rw[←htk];simp[sF]
  have h:=DZ g l _ xs lv pv w hD hr (by omega) (by omega);rw[htk] at h;exact h
structure ReD (w:World) (g d:Nat) (l:List UInt8):Prop where
  ex:∃fv tvv,Bk w g 45 #[.pointer (some ⟨d,0,none⟩),fv,tvv]∧Rt w 61 4 fv (lvs14 l).length (fh (lvs14 l))∧Rt w 49 4 tvv (cE (lvs14 l)).l.length (dt (cE (lvs14 l)).l)
  doc:mE w d l
theorem ReD.next {w w':World} {g d:Nat} {l:List UInt8} (h:ReD w g d l) (hb:Below w.heap.size w w'):ReD w' g d l:=by
  obtain⟨fv,tvv,h1,h2,h3⟩:=h.ex;exact⟨⟨fv,tvv,h1.below hb h1.lt,h2.next hb,h3.next hb⟩,h.doc.next hb⟩
theorem ReD.lt {w:World} {g d:Nat} {l:List UInt8} (h:ReD w g d l):g<w.heap.size∧d<w.heap.size∧g≠d:=by
  obtain⟨fv,tvv,h1,_⟩:=h.ex;obtain⟨_,_,_,_,k2,_⟩:=h.doc;exact⟨h1.lt,k2.bk.lt,fm h1 k2.bk (by decide)⟩
set_option maxHeartbeats 2000000 in
theorem new14_m (l:List UInt8) (w:World) (hl:l.length≤900) :
    Calls Tryz.prog 13 #[.string ⟨l.toArray⟩] w fun e w'=>∃g d,e=.returned (.tuple #[.pointer (some ⟨g,0,none⟩),.int .i64 0])∧w.heap.size≤g∧w.heap.size≤d∧ReD w' g d l∧Below w.heap.size w w':=by
  have hF:=lvs14_fb l hl;have c1:=FW l w hl;have c2:=fun g W (h:mE W g l)=>dleaves_m g l W h hl
  have c3:=fun fv W (hR:Rd W W.heap.size 4 fv (lvs14 l).length (fh (lvs14 l)))=>parse_m (lvs14 l) fv W hF hR
  obtain⟨F,hFe⟩:∃F,F=lvs14 l:=⟨_,rfl⟩;rw[←hFe] at c2 c3;have HC:=Lib.hid (And.intro c1 (And.intro c2 (And.intro c3 hFe)));clear c1 c2 c3 hFe hF;go_enter Tryz.func13,Tryz.ntmps13
  go_wp2_with (first
    | (go_at_call 43;with_reducible refine(HC.out.2.2.1 _ _ (Rd.of_own H2.out.1)).mono ?_
       rintro e w3 ⟨tvv,rfl,ho,hb⟩;obtain⟨A3,n3,c3,rfl⟩:=az ho;have H3:=Lib.hid (And.intro ho hb);clear ho hb)
    | (go_at_call 42;with_reducible refine(HC.out.2.1 _ _ H1.out.2.1).mono ?_
       rintro e w2 ⟨fv,rfl,ho,hb⟩;obtain⟨A2,n2,c2,rfl⟩:=az ho;have H2:=Lib.hid (And.intro ho hb);clear ho hb)
    | (go_at_call 41;with_reducible refine HC.out.1.mono ?_
       rintro e w1 ⟨d,rfl,hd,hD,hb⟩;have H1:=Lib.hid (And.intro hd (And.intro hD hb));clear hd hD hb)
    | fail)
  go_ret2;have hb2:=H1.out.2.2.trans (H2.out.2.mono H1.out.2.2.size);have hb3:=hb2.trans (H3.out.2.mono hb2.size);have hbA:Below w3.heap.size w3 (w3.alloc (.cells #[.pointer (some ⟨d,0,none⟩),.slice A2 n2 c2,.slice A3 n3 c3] 45)):=(Below.refl _ _).alloc (Nat.le_refl _) _;have hF:=HC.out.2.2.2;refine⟨_,d,rfl,hb3.size,H1.out.1,⟨⟨_,_,Bk.new _ _ _,?_,?_⟩,((H1.out.2.1.next H2.out.2).next H3.out.2).next hbA⟩,hb3.trans (hbA.mono hb3.size)⟩
  ·rw[←hF];exact(Rt.of_own (aN H2.out.1 H3.out.2)).next hbA
  ·rw[←hF];exact(Rt.of_own H3.out.1).next hbA
set_option maxHeartbeats 2000000 in
theorem leaves14_m (g d:Nat) (l:List UInt8) (w:World) (hD:ReD w g d l) (hl:l.length≤900) :
    Calls Tryz.prog 24 #[.pointer (some ⟨g,0,none⟩)] w fun e w'=>∃v,e=.returned v∧w'.ownsRow w.heap.size 61 4 v (lvs14 l).length (fh (lvs14 l))∧Below w.heap.size w w':=by
  obtain⟨fv,tvv,h1,h2,h3⟩:=hD.ex;have hF:=(lvs14_fb l hl).n;obtain⟨A,c,rfl⟩:=h2.form;have c1:=clonel_m (lvs14 l) A (lvs14 l).length c w rfl h2.rd (by omega);have y1:w.cell? ⟨g,1,none⟩=some (.slice A (lvs14 l).length c):=by rw[h1.cell];rfl
  have HC:=Lib.hid c1;clear c1 h1 h2 h3 hD hF;generalize lvs14 l=F at *;go_enter Tryz.func24,Tryz.ntmps24;go_wp2_with (
    (go_at_call 48;with_reducible refine HC.out.mono ?_
     rintro e w2 ⟨v,rfl,ho,hb⟩;have H2:=Lib.hid (And.intro ho hb);clear ho hb))
  go_ret;exact⟨_,rfl,H2.out.1,H2.out.2⟩
set_option maxHeartbeats 2000000 in
theorem tree14_m (g d:Nat) (l:List UInt8) (w:World) (hD:ReD w g d l) (hl:l.length≤900) :
    Calls Tryz.prog 14 #[.pointer (some ⟨g,0,none⟩)] w fun e w'=>∃v,e=.returned v∧w'.ownsRow w.heap.size 49 4 v (cE (lvs14 l)).l.length (dt (cE (lvs14 l)).l)∧Below w.heap.size w w':=by
  obtain⟨fv,tvv,h1,h2,h3⟩:=hD.ex;have hF:=(lvs14_fb l hl).n;have hpl:=par_len (lvs14 l);obtain⟨A,c,rfl⟩:=h3.form;have c1:=clonen_m (cE (lvs14 l)).l A (cE (lvs14 l)).l.length c w rfl h3.rd (by omega);have y1:w.cell? ⟨g,2,none⟩=some (.slice A (cE (lvs14 l)).l.length c):=by rw[h1.cell];rfl
  have HC:=Lib.hid c1;clear c1 h1 h2 h3 hD hF hpl;generalize (cE (lvs14 l)).l=L at *;go_enter Tryz.func14,Tryz.ntmps14;go_wp2_with (
    (go_at_call 44;with_reducible refine HC.out.mono ?_
     rintro e w2 ⟨v,rfl,ho,hb⟩;have H2:=Lib.hid (And.intro ho hb);clear ho hb))
  go_ret;exact⟨_,rfl,H2.out.1,H2.out.2⟩
end Go.Proofs.YtfagdpfgifgnoaaGreatDoor
namespace Go.Proofs.YtfagdpfgifgnoaaGreatDoor
open Go.RowKit
set_option linter.unusedVariables false
set_option linter.unusedSimpArgs false
set_option maxRecDepth 100000
abbrev GrD14 (g d:Nat) (w w':World):Prop:=XG (fun k=>k=g∨k=d) w w'
theorem GrD14.of_below {g d:Nat} {w w':World} (h:Below w.heap.size w w'):GrD14 g d w w':=XG.of_below h
theorem GrD14.trans {g d:Nat} {a b c:World} (h:GrD14 g d a b) (k:GrD14 g d b c):GrD14 g d a c:=
  ⟨k.os.trans h.os,k.tape.trans h.tape,k.output.trans h.output,Nat.le_trans h.size k.size,fun j hj hx=>(k.block j (Nat.lt_of_lt_of_le hj h.size) hx).trans (h.block j hj hx)⟩
theorem GrD14.of_grown {g d:Nat} {w w':World} {row:Option Nat} (h:w.grownBy w' row) (hr:∀k,row=some k→k=g∨k=d):GrD14 g d w w':=
  ⟨h.1,h.2,h.3,h.size,fun j hj hx=>h.block j hj (fun e=>hx (hr j e.symm))⟩
theorem Rt.grow {w w':World} {e:TypeId} {sz n:Nat} {v:Value} {xs:List Value} (h:Rt w e sz v n xs) {b:Nat} {t:TypeId} {cs:Array Value} (hb:Bk w b t cs) (hg:w.grownBy w' (some b)) (he:e≠t):Rt w' e sz v n xs:=
  h.keep hg (fun k hk=>by injection hk with hk;subst hk;exact⟨_,_,_,hb,he⟩)
theorem ReD.fin {w:World} {g d:Nat} {l:List UInt8} {u0 u1 fv tvv:Value} (hk:Bk w g 45 #[.pointer (some ⟨d,0,none⟩),u0,u1]) (hf:Rt w 61 4 fv (lvs14 l).length (fh (lvs14 l))) (ht:Rt w 49 4 tvv (cE (lvs14 l)).l.length (dt (cE (lvs14 l)).l)) (hd:mE w d l) :
    ReD ((w.setCell ⟨g,1,none⟩ fv).setCell ⟨g,2,none⟩ tvv) g d l∧GrD14 g d w ((w.setCell ⟨g,1,none⟩ fv).setCell ⟨g,2,none⟩ tvv):=by
  have hg:=aK (aK (bT w (some g)) 1 fv) 2 tvv;have hne:d≠g:=by
    obtain⟨_,_,_,_,k2,_⟩:=hd
    exact(fm hk k2.bk (by decide)).symm
  obtain⟨xs,lv,pv,h1,h2,h3⟩:=hd;have hr:∀{e:TypeId},e≠45→∀k,some g=some k→∃t cs fr,w.heap[k]? = some (.cells cs t fr)∧e≠t:=fun he k hk2=>by injection hk2 with hk2;subst hk2;exact⟨_,_,_,hk,he⟩
  refine⟨⟨⟨fv,tvv,(hk.set 1 fv).set 2 tvv,hf.keep hg (hr (by decide)),ht.keep hg (hr (by decide))⟩,⟨xs,lv,pv,h1,⟨h2.bk.grown hg (fun e=>hne (by injection e)),fun q hq=>(h2.ps q hq).keep hg (hr (by decide)),h2.pv.keep hg (hr (by decide))⟩,h3.keep hg (hr (by decide))⟩⟩,GrD14.of_grown hg (fun k hk2=>by injection hk2 with hk2;exact .inl hk2.symm)⟩
structure Ay14 (w:World) (g d:Nat) (l l2:List UInt8) (fv tvv:Value) (W:World):Prop where
  k:Bk W g 45 #[.pointer (some ⟨d,0,none⟩),fv,tvv]
  f:Rt W 61 4 fv (lvs14 l).length (fh (lvs14 l))
  t:Rt W 49 4 tvv (cE (lvs14 l)).l.length (dt (cE (lvs14 l)).l)
  doc:mE W d l2
  x:GrD14 g d w W
theorem Ay14.below {w:World} {g d:Nat} {l l2:List UInt8} {fv tvv:Value} {W W':World} (h:Ay14 w g d l l2 fv tvv W) (hb:Below W.heap.size W W'):Ay14 w g d l l2 fv tvv W':=
  ⟨h.k.below hb h.k.lt,h.f.next hb,h.t.next hb,h.doc.next hb,h.x.trans (GrD14.of_below hb)⟩
theorem Ay14.set {w:World} {g d b:Nat} {l l2:List UInt8} {fv tvv:Value} {W:World} {cs:Array Value} (h:Ay14 w g d l l2 fv tvv W) (hb:Bk W b 82 cs) (hw:w.heap.size≤b) (i:Nat) (v:Value):Ay14 w g d l l2 fv tvv (W.setCell ⟨b,i,none⟩ v):=by
  have hg:=aK (bT W (some b)) i v;have hr:∀{e:TypeId},e≠82→∀k,some b=some k→∃t cs fr,W.heap[k]? = some (.cells cs t fr)∧e≠t:=fun he k hk2=>by injection hk2 with hk2;subst hk2;exact⟨_,_,_,hb,he⟩
  obtain⟨xs,lv,pv,h1,h2,h3⟩:=h.doc
  exact⟨h.k.grown hg (fun e=>fm h.k hb (by decide) (by injection e)),h.f.keep hg (hr (by decide)),h.t.keep hg (hr (by decide)),
    ⟨xs,lv,pv,h1,⟨h2.bk.grown hg (fun e=>fm h2.bk hb (by decide) (by injection e)),fun q hq=>(h2.ps q hq).keep hg (hr (by decide)),h2.pv.keep hg (hr (by decide))⟩,h3.keep hg (hr (by decide))⟩,XG.set h.x (.inr hw) i v⟩
def keptE (l:List UInt8) (x:Ez):Nat:=if lE l x.d x.a=true then keptN (lvs14 (FZ l x)) (lvs14 l) else 0
theorem edT_len {l:List UInt8} {x:Ez} (hs:xd x=true):(FZ l x).length≤l.length+60:=by
  unfold xd at hs;simp only[Bool.and_eq_true,decide_eq_true_eq] at hs;unfold FZ;by_cases h:lE l x.d x.a=true
  ·rw[if_pos h];obtain⟨ed,d1,d2,d3,d4,d5⟩:=tF h x.i;rw[←d2,←d1];unfold Ed.old Ed.new;simp only[List.length_append];rw[d5];omega
  ·rw[if_neg h];omega
set_option maxHeartbeats 4000000 in
theorem apply14_g (g d:Nat) (l l2:List UInt8) (x:Ez) (ok:Bool) (w:World) (hD:ReD w g d l) (hl:l.length≤900) (hl2:l2.length≤900) (hno:ok=false→l2=l)
    (c1:∀W,mE W d l→Calls Tryz.prog 45 #[.pointer (some ⟨d,0,none⟩),.agg #[.int .i64 x.a,.string ⟨x.d.toArray⟩,.string ⟨x.i.toArray⟩]] W fun e w'=>∃h t:Int,e=.returned (.tuple #[.agg #[.int .i64 h,.int .i64 t],.int .i64 (if ok=true then 0 else 1)])∧mE w' d l2∧W.grownBy w' (some d)) :
    Calls Tryz.prog 15 #[.pointer (some ⟨g,0,none⟩),.agg #[.int .i64 x.a,.string ⟨x.d.toArray⟩,.string ⟨x.i.toArray⟩]] w fun e w'=>e=.returned (.tuple #[.int .i64 ((if ok=true then keptN (lvs14 l2) (lvs14 l) else 0:Nat):Int),.int .i64 (if ok=true then 0 else 1)])∧ReD w' g d l2∧GrD14 g d w w':=by
  obtain⟨fv,tvv,h1,h2,h3⟩:=hD.ex;obtain⟨oA,oc,rfl⟩:=h2.form;obtain⟨lA,lcp,rfl⟩:=h3.form;obtain⟨hgl,hdl,hgd⟩:=hD.lt;have hG:=lvs14_fb l hl;have hdoc:=hD.doc;have HD:=Lib.hid (And.intro h1 (And.intro h2 (And.intro h3 hdoc)));have HC:=Lib.hid (And.intro c1 (And.intro hno hG));clear c1 hno hG h1 h2 h3 hdoc hD;go_enter Tryz.func15,Tryz.ntmps15;go_upto_region 1 with fail
  refine gQ fun W0 hb0 k0 hs0=>?_
  have kgg:=HD.out.1.below hb0 hgl;have y0:W0.cell? ⟨g,0,none⟩=some (.pointer (some ⟨d,0,none⟩)):=by rw[kgg.cell];rfl
  obtain⟨q0,q1,q2,_⟩:=k0.three;have hne:w.heap.size≠d:=by omega
  have hne2:w.heap.size≠g:=by omega
  have H0:=Lib.hid (And.intro kgg (And.intro hb0 (And.intro k0 (And.intro (HD.out.2.2.2.next hb0) (And.intro (HD.out.2.1.next hb0) (HD.out.2.2.1.next hb0))))));obtain⟨z,hz⟩:∃z:Int,z=(if ok=true then 0 else 1):=⟨_,rfl⟩;have HZ:=Lib.hid hz;have c1:=HC.out.1;rw[←hz] at c1;have HC1:=Lib.hid c1;have hlt0:w.heap.size<W0.heap.size:=by omega
  have hne3:W0.heap.size≠d:=by omega
  have hne4:W0.heap.size≠g:=by omega
  clear kgg hb0 k0 hz c1 hs0;go_cut [7] (fun s wx=>s=.int .i64 z∧Ay14 w g d l l2 (.slice oA (lvs14 l).length oc) (.slice lA (cE (lvs14 l)).l.length lcp) wx)
  case first=>
    go_region_held3 (fun w'=>w'.cell? ⟨g,0,none⟩=some (.pointer (some ⟨d,0,none⟩))∧w'.cell? ⟨w.heap.size,0,none⟩=some (.int .i64 x.a)∧w'.cell? ⟨w.heap.size,1,none⟩=some (.string ⟨x.d.toArray⟩)∧w'.cell? ⟨w.heap.size,2,none⟩=some (.string ⟨x.i.toArray⟩))
     (first
      | with_reducible exact⟨y0,q0,q1,q2⟩
      | (try dsimp only
         repeat' (first
           | with_reducible assumption
           | with_reducible apply And.intro
           | with_reducible refine eE ?_
           | with_reducible refine bR ?_ (by omega)
           | with_reducible refine jo ?_)))
     (
      (go_at_call 45
       first
         | with_reducible refine(HC1.out _ (H0.out.2.2.2.1.next (Below.refl _ W0).drew)).mono ?_
         | with_reducible refine(HC1.out _ (H0.out.2.2.2.1.next ((Below.refl _ W0).alloc (Nat.le_refl _) _).drew)).mono ?_
       rintro e w1 ⟨h,t,rfl,hD1,hg1⟩;have hA:∃W9:World,W9.grownBy w1 (some d)∧Below W0.heap.size W0 W9:=by first|exact⟨_,hg1,(Below.refl _ W0).drew⟩|exact⟨_,hg1,((Below.refl _ W0).alloc (Nat.le_refl _) _).drew⟩
       obtain⟨W9,hg9,hb9⟩:=hA;have kg1:=(H0.out.1.below hb9 H0.out.1.lt).grown hg9 (fun e=>hgd (by injection e));have kx1:=(H0.out.2.2.1.below hb9 H0.out.2.2.1.lt).grown hg9 (fun e=>hne (by injection e));have y0:w1.cell? ⟨g,0,none⟩=some (.pointer (some ⟨d,0,none⟩)):=by rw[kg1.cell];rfl
       obtain⟨q0,q1,q2,_⟩:=kx1.three;have hA1:Ay14 w g d l l2 (.slice oA (lvs14 l).length oc) (.slice lA (cE (lvs14 l)).l.length lcp) w1:=by
         obtain⟨_,_,_,_,k2,_⟩:=H0.out.2.2.2.1.next hb9;exact⟨kg1,(H0.out.2.2.2.2.1.next hb9).grow k2.bk hg9 (by decide),(H0.out.2.2.2.2.2.next hb9).grow k2.bk hg9 (by decide),hD1,((GrD14.of_below H0.out.2.1).trans (XG.of_below hb9)).trans (GrD14.of_grown hg9 (fun k hk=>by injection hk with hk;exact .inr hk.symm))⟩
       try have kzz:=(((Bk.new W0 82 #[.int .i64 0,.int .i64 0]).drew)).grown hg1 (fun e=>by injection e with e;omega)
       try have z0:=kzz.cell 0
       try have z1:=kzz.cell 1
       try have fz0:=kzz.frozen 0
       try have fz1:=kzz.frozen 1
       have hg3:g<w1.heap.size:=kg1.lt;have hx3:w.heap.size<w1.heap.size:=kx1.lt;have hw3:W0.heap.size≤w1.heap.size:=Nat.le_trans hb9.size hg9.size;have H1:=Lib.hid hA1;clear kg1 kx1 hD1 hg1 hA1 hg9 hb9))
    all_goals go_wp2_with fail
    all_goals go_meet
    ·exact⟨rfl,H1.out.below ((Below.refl _ _).alloc (Nat.le_refl _) _)⟩
    ·exact⟨rfl,(H1.out.set kzz (Nat.le_of_lt hlt0) 0 _).set (kzz.set 0 _) (Nat.le_of_lt hlt0) 1 _⟩
  case rest=>
    obtain⟨rfl,hA⟩:=hcut
    cases ok
    ·have hl3:=HC.out.2.1 rfl;have hz:z=1:=HZ.out;have t1:(z != 0)=true:=by rw[hz];rfl
     have HA:=Lib.hid (And.intro hA (And.intro hl3 hz));clear hA hl3 hz y0 q0 q1 q2;go_wp2_with fail;go_ret2;obtain⟨hA,hl3,hz⟩:=HA.out;subst hl3;exact⟨by rw[hz];rfl,⟨⟨_,_,hA.k,hA.f,hA.t⟩,hA.doc⟩,hA.x⟩
    ·have hz:z=0:=HZ.out;have t1:(z != 0)=false:=by rw[hz];rfl
     have y0:wc.cell? ⟨g,0,none⟩=some (.pointer (some ⟨d,0,none⟩)):=by rw[hA.k.cell];rfl
     have cLv:=dleaves_m d l2 wc hA.doc hl2;have hF:=lvs14_fb l2 hl2;have cUp:=fun (W:World) (oA lA nA2:Option Addr) (oc lcp nc:Nat) h1 h2 h3=>update_m (lvs14 l2) (lvs14 l) oA lA nA2 oc lcp nc W hF HC.out.2.2 h1 h2 h3
     have HA:=Lib.hid (And.intro hA (And.intro cLv (And.intro cUp hz)));clear hA hz q0 q1 q2 cLv cUp hF;go_wp2_with (
       (go_at_call 42;with_reducible refine HA.out.2.1.mono ?_
        rintro e w4 ⟨v,rfl,ho,hb⟩;obtain⟨A4,n4,c4,rfl⟩:=az ho;obtain rfl:=bN ho;have h4:=HA.out.1.below hb;have y1:w4.cell? ⟨g,1,none⟩=some (.slice oA (lvs14 l).length oc):=by rw[h4.k.cell];rfl
        have y2:w4.cell? ⟨g,2,none⟩=some (.slice lA (cE (lvs14 l)).l.length lcp):=by rw[h4.k.cell];rfl
        have H4:=Lib.hid (And.intro h4 ho);clear h4 ho hb y0))
     go_region_held3 (fun w'=>w'.cell? ⟨g,1,none⟩=some (.slice oA (lvs14 l).length oc)∧w'.cell? ⟨g,2,none⟩=some (.slice lA (cE (lvs14 l)).l.length lcp))
      (first|with_reducible exact⟨y1,y2⟩|exact⟨y1,y2⟩)
      (
       (go_at_call 9;with_reducible refine(HA.out.2.2.1 _ _ _ _ _ _ _ (Rt.rd (H4.out.1.f.next (Below.refl _ w4).drew)) (Rt.rd (H4.out.1.t.next (Below.refl _ w4).drew)) (Rd.of_own (aN H4.out.2 (Below.refl _ w4).drew))).mono ?_
        rintro e w5 ⟨v,rfl,ho,hb⟩;obtain⟨A5,n5,c5,rfl⟩:=az ho;obtain rfl:=bN ho;have hb5:=(Below.refl _ w4).drew.trans hb;have h5:=H4.out.1.below hb5;have y1:=wj hb5 y1;have y2:=wj hb5 y2;have f1:=h5.k.frozen 1;have f2:=h5.k.frozen 2;have hgl5:=h5.k.lt;have H5:=Lib.hid (And.intro h5 (And.intro (aN H4.out.2 hb5) ho));clear hb hb5 h5 ho))
     go_wp2_with fail;go_ret2;obtain⟨h5,ho4,ho5⟩:=H5.out;have hf:=ReD.fin h5.k (Rt.of_own ho4) (Rt.of_own ho5) h5.doc;exact⟨by first|rfl|simp,hf.1,h5.x.trans hf.2⟩
theorem apply14_m (g d:Nat) (l:List UInt8) (x:Ez) (w:World) (hD:ReD w g d l) (hl:l.length+60≤900) (hs:xd x=true) :
    Calls Tryz.prog 15 #[.pointer (some ⟨g,0,none⟩),.agg #[.int .i64 x.a,.string ⟨x.d.toArray⟩,.string ⟨x.i.toArray⟩]] w fun e w'=>e=.returned (.tuple #[.int .i64 (keptE l x:Int),.int .i64 (if lE l x.d x.a=true then 0 else 1)])∧ReD w' g d (FZ l x)∧(FZ l x).length≤l.length+60∧GrD14 g d w w':=by
  have hln:=edT_len hs (l:=l);refine(apply14_g g d l (FZ l x) x (lE l x.d x.a) w hD (by omega) (by omega) (fun h=>by unfold FZ;rw[if_neg (by rw[h];decide)]) (fun W hW=>?_)).mono ?_
  ·refine(F5 d l x W hW hl hs).mono ?_;rintro e w' ⟨h,t,rfl,_,_,h2,_,h4⟩;exact⟨h,t,rfl,h2,h4⟩
  ·rintro e w' ⟨rfl,h1,h2⟩;exact⟨rfl,h1,hln,h2⟩
end Go.Proofs.YtfagdpfgifgnoaaGreatDoor
namespace Go.Proofs.YtfagdpfgifgnoaaGreatDoor
open Go.RowKit
set_option linter.unusedVariables false
set_option linter.unusedSimpArgs false
set_option maxRecDepth 100000
theorem GrD14.below {B g d:Nat} {w W W':World} (hb:Below B w W) (h:GrD14 g d W W') (hB:B≤W.heap.size) (hg:B≤g) (hd:B≤d):Below B w W':=
  ⟨h.os.trans hb.1,h.tape.trans hb.2,h.output.trans hb.3,Nat.le_trans hb.size h.size,fun k hk=>(h.block k (by omega) (fun hx=>by rcases hx with rfl|rfl<;>omega)).trans (hb.block k hk)⟩
def aw14:List UInt8:=[97,59,32,98,59,32,99]
def ex14:Ez:=⟨0,[97],[120],by omega⟩
theorem aw14_kept:keptE aw14 ex14=2:=by decide +kernel
theorem aw14_len:(lvs14 (FZ aw14 ex14)).length=5:=by decide +kernel
theorem aw14_ok:lE aw14 ex14.d ex14.a=true:=by decide +kernel
set_option maxHeartbeats 2000000 in
theorem awake14_c (w:World):Calls Tryz.prog 7 #[] w fun e w'=>e=.returned (.bool true)∧Below w.heap.size w w':=by
  have c1:Calls Tryz.prog 13 #[.string ⟨#[97,59,32,98,59,32,99]⟩] w fun e w'=>∃g d,e=.returned (.tuple #[.pointer (some ⟨g,0,none⟩),.int .i64 0])∧w.heap.size≤g∧w.heap.size≤d∧ReD w' g d aw14∧Below w.heap.size w w':=new14_m aw14 w (by decide)
  have c2:∀g d W,ReD W g d aw14→Calls Tryz.prog 15 #[.pointer (some ⟨g,0,none⟩),.agg #[.int .i64 0,.string ⟨#[97]⟩,.string ⟨#[120]⟩]] W fun e w'=>e=.returned (.tuple #[.int .i64 2,.int .i64 0])∧ReD w' g d (FZ aw14 ex14)∧GrD14 g d W w':=fun g d W h=>by
    refine(apply14_m g d aw14 ex14 W h (by decide) (by decide)).mono ?_;rintro e w' ⟨rfl,h1,_,h2⟩;rw[aw14_kept,if_pos aw14_ok];exact⟨rfl,h1,h2⟩
  have c3:∀g d W,ReD W g d (FZ aw14 ex14)→Calls Tryz.prog 24 #[.pointer (some ⟨g,0,none⟩)] W fun e w'=>(∃A c,e=.returned (.slice A 5 c))∧Below W.heap.size W w':=fun g d W h=>by
    refine(leaves14_m g d _ W h (by decide)).mono ?_;rintro e w' ⟨v,rfl,h1,h2⟩;rw[aw14_len] at h1;obtain⟨A,n,c,rfl⟩:=az h1;obtain rfl:=bN h1;exact⟨⟨A,c,rfl⟩,h2⟩
  have HC:=Lib.hid (And.intro c1 (And.intro c2 c3));clear c1 c2 c3;go_enter Tryz.func7,Tryz.ntmps7
  go_wp2_with (first
    | (go_at_call 24;with_reducible refine(HC.out.2.2 _ _ _ H2.out.1).mono ?_
       rintro e w3 ⟨⟨A,c,rfl⟩,hb⟩;have H3:=Lib.hid (H2.out.2.trans (hb.mono H2.out.2.size));clear hb)
    | (go_at_call 15;with_reducible refine(HC.out.2.1 _ _ _ H1.out.2.2.1).mono ?_
       rintro e w2 ⟨rfl,hD,hx⟩;have H2:=Lib.hid (And.intro hD (GrD14.below H1.out.2.2.2 hx H1.out.2.2.2.size H1.out.1 H1.out.2.1));clear hD hx)
    | (go_at_call 13;with_reducible refine HC.out.1.mono ?_
       rintro e w1 ⟨g,d,rfl,hg,hd,hD,hb⟩;have H1:=Lib.hid (And.intro hg (And.intro hd (And.intro hD hb)));clear hg hd hD hb)
    | fail)
  go_ret;exact⟨rfl,H3.out⟩
end Go.Proofs.YtfagdpfgifgnoaaGreatDoor
