/- The reference's parser: a call of a method in a walk; what the small methods tell. -/
import Derived.Test.YtokmnkmpdnlnaaaGreatDoorNf13
namespace Go.Proofs.YtokmnkmpdnlnaaaGreatDoor
open Go.RowKit
set_option linter.unusedVariables false
set_option linter.unusedSimpArgs false
set_option maxRecDepth 100000
theorem Ny.go {g:Nat} {fv:Value} {F:List Lf} {s t:Ps} {W W1:World} {f:FuncId} {av:Array Value} {r:Value} {Q:Ending→World→Prop} (U:Hid (Ny g fv F W s W1))
    (c:Nk g fv F s W1→Calls Tryz.prog f av W1 fun e w'=>e=.returned r∧Ny g fv F W1 t w') (k:∀w',Hid (Ny g fv F W t w')→Q (.returned r) w'):Calls Tryz.prog f av W1 Q:=
  (c U.out.m).mono (by rintro e w' ⟨rfl,hz⟩;exact k _ (Lib.hid (U.out.then hz)))
theorem Ny.inc {g:Nat} {fv:Value} {F:List Lf} {s t:Ps} {W W1:World} {f:FuncId} {av:Array Value} {r:Value} {Q:Ending→World→Prop} (U:Hid (Ny g fv F W s W1)) (ht:t.p≤100000)
    (c:Nk g fv F s W1→Calls Tryz.prog f av W1 fun e w'=>e=.returned r∧Ny g fv F W1 t w') (k:∀w',g<w'.heap.size→w'.cell? ⟨g,3,none⟩=some (.int .i64 (t.p:Int))→w'.frozen? ⟨g,3,none⟩=false→IntKind.i64.wrap ((t.p:Int)+1)=(t.p:Int)+1 →
      Hid (Ny g fv F W (nextP t) (w'.setCell ⟨g,3,none⟩ (.int .i64 ((t.p:Int)+1))))→Q (.returned r) w'):Calls Tryz.prog f av W1 Q:=
  (c U.out.m).mono (by
    rintro e w' ⟨rfl,hz⟩
    obtain⟨⟨_,_,d3,_,_⟩,_,e3,_,_⟩:=hz.m.cells
    exact k _ hz.m.lt d3 e3 (IntWalk.i64_in _ (by omega)) (Lib.hid ((U.out.then hz).setP (t.p+1))))
theorem comes_1 (F:List Lf) (c:UInt8) (s:Ps):comes F [c] s=(sg F s.p==c):=by
  unfold comes
  rw[List.contains_cons]
  simp
section
variable {g:Nat} {fv:Value} {F:List Lf} {s:Ps} {W:World} (b:Bool) (hF:FB F)
include hF
theorem next_q (hs:s.p≤F.length) (cs:List UInt8) (hcs:(cs.contains 0||decide (1000<cs.length))=false) (hb:comes F cs s=b) (h:Nk g fv F s W) :
    Calls Tryz.prog 31 #[.pointer (some ⟨g,0,none⟩),.string ⟨cs.toArray⟩] W fun e w'=>e=.returned (.bool b)∧Ny g fv F W s w':=by
  rw[Bool.or_eq_false_iff] at hcs
  rw[←hb]
  exact(next_r hF h hs cs hcs.1 (by have:=of_decide_eq_false hcs.2;omega)).mono fun e w' ⟨h1,n,h2⟩=>⟨h1,by rw[h2];exact(Ny.start h).drew n⟩
omit hF in
theorem Nk.drews (h:Nk g fv F s W) (n:Nat):Nk g fv F s (W.drewN n):=((Ny.start h).drew n).m
theorem next_dr (hs:s.p≤F.length) (cs:List UInt8) (hcs:(cs.contains 0||decide (1000<cs.length))=false) (h:Nk g fv F s W) (n:Nat) :
    Calls Tryz.prog 31 #[.pointer (some ⟨g,0,none⟩),.string ⟨cs.toArray⟩] (W.drewN n) fun e w'=>e=.returned (.bool (comes F cs s))∧∃m,w'=W.drewN m:=by
  rw[Bool.or_eq_false_iff] at hcs
  exact(next_r hF (h.drews n) hs cs hcs.1 (by have:=of_decide_eq_false hcs.2;omega)).mono fun e w' ⟨h1,k,h2⟩=>⟨h1,n+k,by rw[h2,World.drewN_drewN]⟩
set_option maxHeartbeats 2000000 in
theorem redirs_r (hs:s.p≤F.length) (h:Nk g fv F s W) :
    Calls Tryz.prog 74 #[.pointer (some ⟨g,0,none⟩)] W fun e w'=>e=.returned (.bool (redirB F s))∧∃n,w'=W.drewN n:=by
  have hn:=hF.n
  obtain⟨⟨c0,c1,c3,c4,c5⟩,_⟩:=h.cells
  have hsl:=sgs_len F
  have v1:IntKind.i64.wrap ((s.p:Int)+1)=((s.p+1:Nat):Int):=by rw[IntWalk.i64_in _ (by omega)];omega
  have hr:redirB F s=(comes F [60] s||comes F [35] s&&sg F (s.p+1)==60):=by unfold redirB;rw[comes_1,comes_1]
  have q1:=next_dr hF hs [60] (by decide) h
  have q2:=next_dr hF hs [35] (by decide) h
  rw[hr]
  have hlt:comes F [35] s=true→s.p<F.length:=fun h=>comes_lt h (by decide)
  have hT:∀i,i<F.length→(sgs F)[i]? = some (sg F i):=fun i hi=>sgs_at hi
  have hnil:¬s.p+1<F.length→sg F (s.p+1)=0:=fun h=>by unfold sg;rw[List.getElem?_eq_none (by omega)]
  generalize comes F [60] s=b1 at *
  generalize comes F [35] s=b2 at *
  obtain⟨T,hTe⟩:∃T,T=sgs F:=⟨_,rfl⟩
  rw[←hTe] at c1 hsl hT
  obtain⟨i,hi⟩:∃i,i=s.p+1:=⟨_,rfl⟩
  rw[←hi] at v1 hnil ⊢
  have HQ:=Lib.hid (And.intro q1 q2)
  clear q1 q2 hr hTe h c0 c4 c5
  cases b1
  case' true=>
    clear hT hnil hlt hi
  case' false=>
    cases b2
    case' false=>
      clear hT hnil hlt hi
    case' true=>
      have u1:=hlt rfl
      have u0:(0:Int)≤(i:Int):=by omega
      by_cases hi2:i<F.length
      case' pos=>
        have k1:=hT i hi2
        obtain⟨c,hc⟩:∃c,c=sg F i:=⟨_,rfl⟩
        rw[←hc] at k1 ⊢
        obtain⟨g1,g2⟩:=List.getElem?_eq_some_iff.1 k1
        have g3:(ByteArray.mk T.toArray)[i]'(show i<T.length from g1)=c:=g2
        have k2:((c.toNat:Int)==60)=(c==60):=u8_beq c 60
        obtain⟨bb,hbb⟩:∃bb,bb=(c==60):=⟨_,rfl⟩
        rw[←hbb] at k2 ⊢
        have t2:decide ((i:Int)<(T.length:Int))=true:=decide_eq_true (by omega)
        have t3:decide (i<T.length)=true:=decide_eq_true g1
        clear hT hnil hlt hi k1 g2 hc hbb
      case' neg=>
        rw[hnil hi2]
        have t2:decide ((i:Int)<(T.length:Int))=false:=decide_eq_false (by omega)
        have t3:decide (i<T.length)=false:=decide_eq_false (by omega)
        clear hT hnil hlt hi
  all_goals (
    go_enter Tryz.func74,Tryz.ntmps74
    go_wp2
    go_quiet (first
      | (go_at_call 31
         with_reducible exact HQ.out.1 _)
      | (go_at_call 31
         with_reducible exact HQ.out.2 _))
    go_wp2
    go_ret
    exact⟨rfl,_,rfl⟩)
end
end Go.Proofs.YtokmnkmpdnlnaaaGreatDoor
