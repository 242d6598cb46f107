/- The reference's step of the machine in all plain modes (quillwortref06.plain), joined: it computes rPlain. -/
import Derived.Test.YtcagfamdoaoimaaGreatDoorRefP1
import Derived.Test.YtcagfamdoaoimaaGreatDoorPl6
set_option linter.unusedVariables false
set_option linter.unusedSimpArgs false
set_option maxRecDepth 100000
set_option maxHeartbeats 8000000
namespace Go.Proofs.YtcagfamdoaoimaaGreatDoor
open Go.RowKit
variable {p q:Int} {l S2:List UInt8} {k m bx n2 c2:Nat} {A2:Option Addr} {r:eU} {c d:UInt8} {u0 u1 u2 v0 v1 v2:Value} {cs:Value×Value×Value} {wr w2:World} (S:List UInt8) (b:UInt8) (A:Option Addr) (w:World) (v:UInt8) (n:Nat)
theorem bf (h:b≠v):((b.toNat:Int)==(v.toNat:Int))=false:=by
  rw[az];intro e;exact h (dc.1 (by omega))
theorem nN (h1:b≠92) (h2:b≠36) (h3:b≠96):gj b=[]:=by
  have:=fg (fun b=>b==92||b==36||b==96||gj b==[]) (by decide +kernel) b
  simpa [h1,h2,h3] using this
theorem sQ (k:Nat) (st:eU) (f:Bool) (c b:UInt8) (at_:Int) (w:World) (h:Rs w S A n k st) (hd:UInt8×Int) (hst:st=hd::st.tail) (hl:st.length≤1000) :
    uO 129 S A n k f c b at_ w (dL st f c b at_).1 (dL st f c b at_).2:=by
  rcases aF (c=84) with rfl|hnc84
  ·exact MY S A n k st f b at_ w h hd hst hl
  rcases aF (c=67) with rfl|hnc67
  ·exact M5 S A n k st f b at_ w h hd hst hl
  rcases aF (c=80) with rfl|hnc80
  ·exact MZ S A n k st f b at_ w h hd hst hl
  rcases aF (c=88) with rfl|hnc88
  ·rcases aF (b=10) with rfl|hnb10
   ·exact Lq S A n k st f at_ w h hd hst hl
   exact Lp S A n k st f b at_ w h hd hst hl (bf b 10 (by assumption))
  rcases aF (c=83) with rfl|hnc83
  ·rcases aF (b=39) with rfl|hnb39
   ·exact tL.1 S A n k st f at_ w h hd hst hl
   exact tL.2.1 b (bf b 39 (by assumption)) S A n k st f at_ w h hd hst hl
  rcases aF (c=35) with rfl|hnc35
  ·rcases aF (b=10) with rfl|hnb10
   ·exact tL.2.2.1 S A n k st f at_ w h hd hst hl
   exact tL.2.2.2.1 b (bf b 10 (by assumption)) S A n k st f at_ w h hd hst hl
  rcases aF (c=66) with rfl|hnc66
  ·rcases aF (b=96) with rfl|hnb96
   ·exact tL.2.2.2.2.1 S A n k st f at_ w h hd hst hl
   rcases aF (b=92) with rfl|hnb92
   ·exact tL.2.2.2.2.2.1 S A n k st f at_ w h hd hst hl
   exact tL.2.2.2.2.2.2 b (bf b 96 (by assumption)) (bf b 92 (by assumption)) S A n k st f at_ w h hd hst hl
  rcases aF (c=65) with rfl|hnc65
  ·rcases aF (b=92) with rfl|hnb92
   ·exact tJ S A n k st f 65 at_ w h hd hst hl rfl rfl rfl rfl rfl rfl rfl
   rcases aF (b=36) with rfl|hnb36
   ·exact tK S A n k st f 65 at_ w h hd hst hl rfl rfl rfl rfl rfl rfl rfl
   rcases aF (b=96) with rfl|hnb96
   ·exact tI S A n k st f 65 at_ w h hd hst hl rfl rfl rfl rfl rfl rfl rfl
   rcases aF (b=40) with rfl|hnb40
   ·exact vz.1 (by decide) S A n k st f at_ w h hd hst hl
   rcases aF (b=41) with rfl|hnb41
   ·exact vz.2.1 (by decide) S A n k st f at_ w h hd hst hl
   exact vz.2.2.1 b (bf b 92 (by assumption)) (bf b 36 (by assumption)) (bf b 96 (by assumption)) (bf b 40 (by assumption)) (bf b 41 (by assumption)) (nN b (by assumption) (by assumption) (by assumption)) S A n k st f at_ w h hd hst hl
  rcases aF (c=82) with rfl|hnc82
  ·rcases aF (b=92) with rfl|hnb92
   ·exact tJ S A n k st f 82 at_ w h hd hst hl rfl rfl rfl rfl rfl rfl rfl
   rcases aF (b=36) with rfl|hnb36
   ·exact tK S A n k st f 82 at_ w h hd hst hl rfl rfl rfl rfl rfl rfl rfl
   rcases aF (b=96) with rfl|hnb96
   ·exact tI S A n k st f 82 at_ w h hd hst hl rfl rfl rfl rfl rfl rfl rfl
   rcases aF (b=40) with rfl|hnb40
   ·exact vz.2.2.2.1 (by decide) S A n k st f at_ w h hd hst hl
   rcases aF (b=41) with rfl|hnb41
   ·exact vz.2.2.2.2.1 (by decide) S A n k st f at_ w h hd hst hl
   exact vz.2.2.2.2.2 b (bf b 92 (by assumption)) (bf b 36 (by assumption)) (bf b 96 (by assumption)) (bf b 40 (by assumption)) (bf b 41 (by assumption)) (nN b (by assumption) (by assumption) (by assumption)) S A n k st f at_ w h hd hst hl
  rcases aF (c=68) with rfl|hnc68
  ·rcases aF (b=92) with rfl|hnb92
   ·exact tJ S A n k st f 68 at_ w h hd hst hl rfl rfl rfl rfl rfl rfl rfl
   rcases aF (b=36) with rfl|hnb36
   ·exact tK S A n k st f 68 at_ w h hd hst hl rfl rfl rfl rfl rfl rfl rfl
   rcases aF (b=96) with rfl|hnb96
   ·exact tI S A n k st f 68 at_ w h hd hst hl rfl rfl rfl rfl rfl rfl rfl
   rcases aF (b=34) with rfl|hnb34
   ·exact oW.1 (by decide) S A n k st f at_ w h hd hst hl
   exact oW.2.1 b (bf b 92 (by assumption)) (bf b 36 (by assumption)) (bf b 96 (by assumption)) (bf b 34 (by assumption)) (nN b (by assumption) (by assumption) (by assumption)) S A n k st f at_ w h hd hst hl
  rcases aF (c=86) with rfl|hnc86
  ·rcases aF (b=92) with rfl|hnb92
   ·exact tJ S A n k st f 86 at_ w h hd hst hl rfl rfl rfl rfl rfl rfl rfl
   rcases aF (b=36) with rfl|hnb36
   ·exact tK S A n k st f 86 at_ w h hd hst hl rfl rfl rfl rfl rfl rfl rfl
   rcases aF (b=96) with rfl|hnb96
   ·exact tI S A n k st f 86 at_ w h hd hst hl rfl rfl rfl rfl rfl rfl rfl
   rcases aF (b=34) with rfl|hnb34
   ·exact oW.2.2.1 86 rfl rfl rfl rfl rfl rfl rfl rfl rfl rfl (by decide) S A n k st f at_ w h hd hst hl
   rcases aF (b=125) with rfl|hnb125
   ·exact oW.2.2.2.1 86 rfl rfl rfl rfl rfl rfl rfl rfl rfl rfl (by decide) S A n k st f at_ w h hd hst hl
   rcases aF (b=39) with rfl|hnb39
   ·exact oW.2.2.2.2.1 (by decide) S A n k st f at_ w h hd hst hl
   exact oW.2.2.2.2.2.2 86 b rfl rfl rfl rfl rfl rfl rfl rfl rfl rfl (bf b 92 (by assumption)) (bf b 36 (by assumption)) (bf b 96 (by assumption)) (bf b 34 (by assumption)) (bf b 125 (by assumption)) (bf b 39 (by assumption)) (nN b (by assumption) (by assumption) (by assumption)) S A n k st f at_ w h hd hst hl
  rcases aF (b=92) with rfl|hnb92
  ·exact tJ S A n k st f c at_ w h hd hst hl (bf c 84 (by assumption)) (bf c 67 (by assumption)) (bf c 80 (by assumption)) (bf c 88 (by assumption)) (bf c 83 (by assumption)) (bf c 35 (by assumption)) (bf c 66 (by assumption))
  rcases aF (b=36) with rfl|hnb36
  ·exact tK S A n k st f c at_ w h hd hst hl (bf c 84 (by assumption)) (bf c 67 (by assumption)) (bf c 80 (by assumption)) (bf c 88 (by assumption)) (bf c 83 (by assumption)) (bf c 35 (by assumption)) (bf c 66 (by assumption))
  rcases aF (b=96) with rfl|hnb96
  ·exact tI S A n k st f c at_ w h hd hst hl (bf c 84 (by assumption)) (bf c 67 (by assumption)) (bf c 80 (by assumption)) (bf c 88 (by assumption)) (bf c 83 (by assumption)) (bf c 35 (by assumption)) (bf c 66 (by assumption))
  rcases aF (b=34) with rfl|hnb34
  ·exact oW.2.2.1 c (bf c 84 (by assumption)) (bf c 67 (by assumption)) (bf c 80 (by assumption)) (bf c 88 (by assumption)) (bf c 83 (by assumption)) (bf c 35 (by assumption)) (bf c 66 (by assumption)) (bf c 65 (by assumption)) (bf c 82 (by assumption)) (bf c 68 (by assumption)) (by decide) S A n k st f at_ w h hd hst hl
  rcases aF (b=125) with rfl|hnb125
  ·exact oW.2.2.2.1 c (bf c 84 (by assumption)) (bf c 67 (by assumption)) (bf c 80 (by assumption)) (bf c 88 (by assumption)) (bf c 83 (by assumption)) (bf c 35 (by assumption)) (bf c 66 (by assumption)) (bf c 65 (by assumption)) (bf c 82 (by assumption)) (bf c 68 (by assumption)) (by decide) S A n k st f at_ w h hd hst hl
  rcases aF (b=39) with rfl|hnb39
  ·exact oW.2.2.2.2.2.1 c (bf c 84 (by assumption)) (bf c 67 (by assumption)) (bf c 80 (by assumption)) (bf c 88 (by assumption)) (bf c 83 (by assumption)) (bf c 35 (by assumption)) (bf c 66 (by assumption)) (bf c 65 (by assumption)) (bf c 82 (by assumption)) (bf c 68 (by assumption)) (bf c 86 (by assumption)) (by decide) S A n k st f at_ w h hd hst hl
  exact oW.2.2.2.2.2.2 c b (bf c 84 (by assumption)) (bf c 67 (by assumption)) (bf c 80 (by assumption)) (bf c 88 (by assumption)) (bf c 83 (by assumption)) (bf c 35 (by assumption)) (bf c 66 (by assumption)) (bf c 65 (by assumption)) (bf c 82 (by assumption)) (bf c 68 (by assumption)) (bf b 92 (by assumption)) (bf b 36 (by assumption)) (bf b 96 (by assumption)) (bf b 34 (by assumption)) (bf b 125 (by assumption)) (bf b 39 (by assumption)) (nN b (by assumption) (by assumption) (by assumption)) S A n k st f at_ w h hd hst hl
theorem ku {w:World} {S:List UInt8} {A:Option Addr} {n:Nat} (h:Rs w S A n k ((c,p)::r)) (hm:r.length=m) :
    S.length=m+1∧∃hlt:m<(ByteArray.mk S.toArray).size,(ByteArray.mk S.toArray)[m]'hlt=c:=by
  have hl:=h.len;have h1:=h.1;rw[ow] at h1;subst h1 hm;refine⟨by simp[kw],by show r.length<(rS r++[c]).length;simp[kw],?_⟩;rw[lz,List.getElem_append_right (by simp[kw])];simp[kw]
theorem pS :
    (∀(S:List UInt8) (A:Option Addr) (n k:Nat) (f:Bool) (at_ p:Int) (w:World) (r:eU) (hl:r.length≤998) (h:Rs w S A n k ((76,p)::r)),sL 92 S A n k f 40 at_ w (eG ((76,p)::r) f 40 at_).1 (eG ((76,p)::r) f 40 at_).2) ∧
    (∀(S:List UInt8) (A:Option Addr) (n k:Nat) (f:Bool) (at_ p:Int) (w:World) (r:eU) (hl:r.length≤998) (h:Rs w S A n k ((76,p)::r)),sL 92 S A n k f 36 at_ w (eG ((76,p)::r) f 36 at_).1 (eG ((76,p)::r) f 36 at_).2) ∧
    (∀(S:List UInt8) (A:Option Addr) (n k:Nat) (f:Bool) (at_ p:Int) (w:World) (r:eU) (hl:r.length≤998) (h:Rs w S A n k ((79,p)::r)),sL 92 S A n k f 40 at_ w (eG ((79,p)::r) f 40 at_).1 (eG ((79,p)::r) f 40 at_).2) ∧
    (∀(S:List UInt8) (A:Option Addr) (n k:Nat) (f:Bool) (at_ p:Int) (w:World) (r:eU) (hl:r.length≤998) (h:Rs w S A n k ((69,p)::r)),sL 92 S A n k f 41 at_ w (eG ((69,p)::r) f 41 at_).1 (eG ((69,p)::r) f 41 at_).2) ∧
    (∀(S:List UInt8) (A:Option Addr) (n k:Nat) (f:Bool) (at_ p:Int) (w:World) (r:eU) (hl:r.length≤998) (c b:UInt8) (hc76:((c.toNat:Int)==76)=false) (hc79:((c.toNat:Int)==79)=false) (hc69:((c.toNat:Int)==69)=false) (h:Rs w S A n k ((c,p)::r)),sL 92 S A n k f b at_ w (eG ((c,p)::r) f b at_).1 (eG ((c,p)::r) f b at_).2):=by
  refine⟨fun S A n k f at_ p w r hl h=>?c0,fun S A n k f at_ p w r hl h=>?c1,fun S A n k f at_ p w r hl h=>?c2,fun S A n k f at_ p w r hl h=>?c3,fun S A n k f at_ p w r hl c b hc76 hc79 hc69 h=>?c4⟩
  case' c0=>
    obtain⟨m,hm⟩:∃m,r.length=m:=⟨_,rfl⟩;obtain⟨hS,hlt,hg⟩:=ku h hm;have hi:(m:Int)<(m:Int)+1:=by omega
    have hmb:m≤998:=by omega
    have HM:=aa hm;clear hm;have H:=aa h;clear h;go_enter Tryz.func92,Tryz.ntmps92
    go_wp2_with (first
      | (go_at_call 127;refine np w (nA S A n k r _ 76 p _ _ (H.out.next (by go_grown)) (by omega)) fun w1 S1 A1 n1 k1 Hx1 hz1 q1 kk1 y0 y1 y2 z0 z1 z2 Hb1=>?_
         have bb1:=Bk.below (cs:=#[.string ⟨S.toArray⟩,.slice A n k,.bool f]) (by exact iy w _ _ _ _:Bk _ w.heap.size 115 _) Hb1.out (by simp;omega);obtain⟨v0,v1,v2,g0,g1,g2⟩:=bb1.three)
      | (go_at_call 126;refine Mx q1 kk1 (mR S1 A1 n1 k1 _ _ _ _ Hx1.out) fun w2 S2 A2 n2 k2 Hx2 q2 kk2 y0 y1 y2 z0 z1 z2=>?_))
    all_goals first
    | (refine jq kk2 fun F hF hgF x0 x1 x2=>?_
       refine aK (by simp[results,Tryz.results92,go_sem,x0,x1,x2];try rfl) rfl ?_;refine gh (by omega) Hx2.out q2 kk2 hF hgF ?_ ?_)
    | (refine jq kk1 fun F hF hgF x0 x1 x2=>?_
       refine aK (by simp[results,Tryz.results92,go_sem,x0,x1,x2];try rfl) rfl ?_;refine gh (by omega) Hx1.out q1 kk1 hF hgF ?_ ?_)
    | (go_returns;refine jh H.out (by go_grown) ?_ ?_)
  case' c1=>
    obtain⟨m,hm⟩:∃m,r.length=m:=⟨_,rfl⟩;obtain⟨hS,hlt,hg⟩:=ku h hm;have hi:(m:Int)<(m:Int)+1:=by omega
    have hmb:m≤998:=by omega
    have HM:=aa hm;clear hm;have H:=aa h;clear h;go_enter Tryz.func92,Tryz.ntmps92
    go_wp2_with (first
      | (go_at_call 128;refine np w (qh S A n k _ _ _ (H.out.next (by go_grown)) (by simp) (by simp;omega)) fun w1 S1 A1 n1 k1 Hx1 hz1 q1 kk1 y0 y1 y2 z0 z1 z2 Hb1=>?_
         have bb1:=Bk.below (cs:=#[.string ⟨S.toArray⟩,.slice A n k,.bool f]) (by exact iy w _ _ _ _:Bk _ w.heap.size 115 _) Hb1.out (by simp;omega);obtain⟨v0,v1,v2,g0,g1,g2⟩:=bb1.three))
    all_goals (refine GE bb1 kk1 (by omega) fun F0 F hB0 hg0 hF hgF x0 x1 x2=>?_
               refine aK (by simp[results,Tryz.results92,go_sem,x0,x1,x2];try rfl) rfl ?_;refine gh (by omega) ⟨Hx1.out.1,Hx1.out.2.1,Hx1.out.2.2.keep hg0 (bb1.row (by decide))⟩ (q1.grown hg0 q1.size (by intro j hj;injection hj with hj;omega)) hB0 hF hgF ?_ ?_)
  case' c2=>
    obtain⟨m,hm⟩:∃m,r.length=m:=⟨_,rfl⟩;obtain⟨hS,hlt,hg⟩:=ku h hm;have hi:(m:Int)<(m:Int)+1:=by omega
    have hmb:m≤998:=by omega
    have HM:=aa hm;clear hm;have H:=aa h;clear h;go_enter Tryz.func92,Tryz.ntmps92
    go_wp2_with (first
      | (go_at_call 127;refine np w (nA S A n k r 65 _ p _ _ (H.out.next (by go_grown)) (by omega)) fun w1 S1 A1 n1 k1 Hx1 hz1 q1 kk1 y0 y1 y2 z0 z1 z2 Hb1=>?_
         have bb1:=Bk.below (cs:=#[.string ⟨S.toArray⟩,.slice A n k,.bool f]) (by exact iy w _ _ _ _:Bk _ w.heap.size 115 _) Hb1.out (by simp;omega);obtain⟨v0,v1,v2,g0,g1,g2⟩:=bb1.three)
      | (go_at_call 126;refine Mx q1 kk1 (mR S1 A1 n1 k1 _ _ _ _ Hx1.out) fun w2 S2 A2 n2 k2 Hx2 q2 kk2 y0 y1 y2 z0 z1 z2=>?_))
    all_goals first
    | (refine jq kk2 fun F hF hgF x0 x1 x2=>?_
       refine aK (by simp[results,Tryz.results92,go_sem,x0,x1,x2];try rfl) rfl ?_;refine gh (by omega) Hx2.out q2 kk2 hF hgF ?_ ?_)
    | (refine jq kk1 fun F hF hgF x0 x1 x2=>?_
       refine aK (by simp[results,Tryz.results92,go_sem,x0,x1,x2];try rfl) rfl ?_;refine gh (by omega) Hx1.out q1 kk1 hF hgF ?_ ?_)
    | (go_returns;refine jh H.out (by go_grown) ?_ ?_)
  case' c3=>
    obtain⟨m,hm⟩:∃m,r.length=m:=⟨_,rfl⟩;obtain⟨hS,hlt,hg⟩:=ku h hm;have hi:(m:Int)<(m:Int)+1:=by omega
    have hmb:m≤998:=by omega
    have HM:=aa hm;clear hm;have H:=aa h;clear h;go_enter Tryz.func92,Tryz.ntmps92
    go_wp2_with (first
      | (go_at_call 128;refine np w (qh S A n k _ _ _ (H.out.next (by go_grown)) (by simp) (by simp;omega)) fun w1 S1 A1 n1 k1 Hx1 hz1 q1 kk1 y0 y1 y2 z0 z1 z2 Hb1=>?_
         have bb1:=Bk.below (cs:=#[.string ⟨S.toArray⟩,.slice A n k,.bool f]) (by exact iy w _ _ _ _:Bk _ w.heap.size 115 _) Hb1.out (by simp;omega);obtain⟨v0,v1,v2,g0,g1,g2⟩:=bb1.three))
    all_goals first
    | (refine jq kk2 fun F hF hgF x0 x1 x2=>?_
       refine aK (by simp[results,Tryz.results92,go_sem,x0,x1,x2];try rfl) rfl ?_;refine gh (by omega) Hx2.out q2 kk2 hF hgF ?_ ?_)
    | (refine jq kk1 fun F hF hgF x0 x1 x2=>?_
       refine aK (by simp[results,Tryz.results92,go_sem,x0,x1,x2];try rfl) rfl ?_;refine gh (by omega) Hx1.out q1 kk1 hF hgF ?_ ?_)
    | (go_returns;refine jh H.out (by go_grown) ?_ ?_)
  case' c4=>
    obtain⟨m,hm⟩:∃m,r.length=m:=⟨_,rfl⟩;obtain⟨hS,hlt,hg⟩:=ku h hm;have hi:(m:Int)<(m:Int)+1:=by omega
    have hmb:m≤998:=by omega
    have HM:=aa hm;clear hm;have H:=aa h;clear h;go_enter Tryz.func92,Tryz.ntmps92
    go_wp2_with (first
      | (go_at_call 129;refine np w (sQ S A n k _ _ c b at_ _ (H.out.next (by go_grown)) (c,p) rfl (by simp;omega)) fun w1 S1 A1 n1 k1 Hx1 hz1 q1 kk1 y0 y1 y2 z0 z1 z2 Hb1=>?_))
    all_goals first
    | (refine jq kk2 fun F hF hgF x0 x1 x2=>?_
       refine aK (by simp[results,Tryz.results92,go_sem,x0,x1,x2];try rfl) rfl ?_;refine gh (by omega) Hx2.out q2 kk2 hF hgF ?_ ?_)
    | (refine jq kk1 fun F hF hgF x0 x1 x2=>?_
       refine aK (by simp[results,Tryz.results92,go_sem,x0,x1,x2];try rfl) rfl ?_;refine gh (by omega) Hx1.out q1 kk1 hF hgF ?_ ?_)
    | (go_returns;refine jh H.out (by go_grown) ?_ ?_)
  all_goals (
    all_goals go_light
    all_goals try simp only[aR,az,ne_eq] at *
    all_goals unfold eG
    all_goals try dsimp only
    all_goals (repeat (first|rw[aD (by first|decide|omega|(simp;done)|(simp;omega))]|rw[aB (by first|decide|omega|(simp;done)|(simp;omega))]))
    all_goals first|rfl|(simp;done)|(rw[bB];simp;omega)|(have e:=Hst.out;generalize st.tail=r at *;subst e;rfl))
abbrev Er:=pS.1
abbrev Es:=pS.2.1
abbrev Eq:=pS.2.2.1
abbrev Et:=pS.2.2.2.1
abbrev NF:=pS.2.2.2.2
theorem wB {w:World} {S:List UInt8} {A:Option Addr} {n:Nat} (h:Rs w S A n k ((c,p)::(d,q)::r)) (hm:r.length=m) :
    ∃hlt:m<(ByteArray.mk S.toArray).size,(ByteArray.mk S.toArray)[m]'hlt=d:=by
  have h1:=h.1;rw[ow,ow] at h1;subst h1 hm;refine⟨by show r.length<(rS r++[d]++[c]).length;simp[kw],?_⟩;rw[lz,List.getElem_append_left (by simp[kw]),List.getElem_append_right (by simp[kw])];simp[kw]
theorem rj :
    (∀(S:List UInt8) (A:Option Addr) (n k:Nat) (f:Bool) (at_ p:Int) (w:World) (r2:eU) (q:Int) (hl:r2.length≤997) (h:Rs w S A n k ((76,p)::(68,q)::r2)),sL 92 S A n k f 123 at_ w (eG ((76,p)::(68,q)::r2) f 123 at_).1 (eG ((76,p)::(68,q)::r2) f 123 at_).2) ∧
    (∀(S:List UInt8) (A:Option Addr) (n k:Nat) (f:Bool) (at_ p:Int) (w:World) (r2:eU) (q:Int) (hl:r2.length≤997) (h:Rs w S A n k ((76,p)::(73,q)::r2)),sL 92 S A n k f 123 at_ w (eG ((76,p)::(73,q)::r2) f 123 at_).1 (eG ((76,p)::(73,q)::r2) f 123 at_).2) ∧
    (∀(S:List UInt8) (A:Option Addr) (n k:Nat) (f:Bool) (at_ p:Int) (w:World) (r2:eU) (q:Int) (hl:r2.length≤997) (d:UInt8) (hd68:((d.toNat:Int)==68)=false) (hd73:((d.toNat:Int)==73)=false) (h:Rs w S A n k ((76,p)::(d,q)::r2)),sL 92 S A n k f 123 at_ w (eG ((76,p)::(d,q)::r2) f 123 at_).1 (eG ((76,p)::(d,q)::r2) f 123 at_).2) ∧
    (∀(S:List UInt8) (A:Option Addr) (n k:Nat) (f:Bool) (at_ p:Int) (w:World) (r2:eU) (q:Int) (hl:r2.length≤997) (d b:UInt8) (hb40:((b.toNat:Int)==40)=false) (hb123:((b.toNat:Int)==123)=false) (hb36:((b.toNat:Int)==36)=false) (h:Rs w S A n k ((76,p)::(d,q)::r2)),sL 92 S A n k f b at_ w (eG ((76,p)::(d,q)::r2) f b at_).1 (eG ((76,p)::(d,q)::r2) f b at_).2) ∧
    (∀(S:List UInt8) (A:Option Addr) (n k:Nat) (f:Bool) (at_ p:Int) (w:World) (r:eU) (hl:r.length≤998) (b:UInt8) (hb40:((b.toNat:Int)==40)=false) (h:Rs w S A n k ((79,p)::r)),sL 92 S A n k f b at_ w (eG ((79,p)::r) f b at_).1 (eG ((79,p)::r) f b at_).2) ∧
    (∀(S:List UInt8) (A:Option Addr) (n k:Nat) (f:Bool) (at_ p:Int) (w:World) (r:eU) (hl:r.length≤998) (b:UInt8) (hb41:((b.toNat:Int)==41)=false) (h:Rs w S A n k ((69,p)::r)),sL 92 S A n k f b at_ w (eG ((69,p)::r) f b at_).1 (eG ((69,p)::r) f b at_).2):=by
  refine⟨fun S A n k f at_ p w r2 q hl h=>?c0,fun S A n k f at_ p w r2 q hl h=>?c1,fun S A n k f at_ p w r2 q hl d hd68 hd73 h=>?c2,fun S A n k f at_ p w r2 q hl d b hb40 hb123 hb36 h=>?c3,fun S A n k f at_ p w r hl b hb40 h=>?c4,fun S A n k f at_ p w r hl b hb41 h=>?c5⟩
  case' c0=>
    obtain⟨j,hj⟩:∃j,r2.length=j:=⟨_,rfl⟩;obtain⟨hS,hlt,hg⟩:=ku (m:=j+1) h (by simp[hj]);obtain⟨hlt0,hg0⟩:=wB h hj;have hi:((j:Int)+1)<(j:Int)+1+1:=by omega
    have hmb:j≤998:=by omega
    have HJ:=aa hj;clear hj;have H:=aa h;clear h;go_enter Tryz.func92,Tryz.ntmps92
    go_wp2_with (first
      | (go_at_call 127;refine np w (nA S A n k ((68,q)::r2) 73 _ p _ _ (H.out.next (by go_grown)) (by simp;omega)) fun w1 S1 A1 n1 k1 Hx1 hz1 q1 kk1 y0 y1 y2 z0 z1 z2 Hb1=>?_
         have bb1:=Bk.below (cs:=#[.string ⟨S.toArray⟩,.slice A n k,.bool f]) (by exact iy w _ _ _ _:Bk _ w.heap.size 115 _) Hb1.out (by simp;omega);obtain⟨v0,v1,v2,g0,g1,g2⟩:=bb1.three))
  case' c1=>
    obtain⟨j,hj⟩:∃j,r2.length=j:=⟨_,rfl⟩;obtain⟨hS,hlt,hg⟩:=ku (m:=j+1) h (by simp[hj]);obtain⟨hlt0,hg0⟩:=wB h hj;have hi:((j:Int)+1)<(j:Int)+1+1:=by omega
    have hmb:j≤998:=by omega
    have HJ:=aa hj;clear hj;have H:=aa h;clear h;go_enter Tryz.func92,Tryz.ntmps92
    go_wp2_with (first
      | (go_at_call 127;refine np w (nA S A n k ((73,q)::r2) 73 _ p _ _ (H.out.next (by go_grown)) (by simp;omega)) fun w1 S1 A1 n1 k1 Hx1 hz1 q1 kk1 y0 y1 y2 z0 z1 z2 Hb1=>?_
         have bb1:=Bk.below (cs:=#[.string ⟨S.toArray⟩,.slice A n k,.bool f]) (by exact iy w _ _ _ _:Bk _ w.heap.size 115 _) Hb1.out (by simp;omega);obtain⟨v0,v1,v2,g0,g1,g2⟩:=bb1.three))
  case' c2=>
    obtain⟨j,hj⟩:∃j,r2.length=j:=⟨_,rfl⟩;obtain⟨hS,hlt,hg⟩:=ku (m:=j+1) h (by simp[hj]);obtain⟨hlt0,hg0⟩:=wB h hj;have hi:((j:Int)+1)<(j:Int)+1+1:=by omega
    have hmb:j≤998:=by omega
    have HJ:=aa hj;clear hj;have H:=aa h;clear h;go_enter Tryz.func92,Tryz.ntmps92
    go_wp2_with (first
      | (go_at_call 127;refine np w (nA S A n k ((d,q)::r2) 86 _ p _ _ (H.out.next (by go_grown)) (by simp;omega)) fun w1 S1 A1 n1 k1 Hx1 hz1 q1 kk1 y0 y1 y2 z0 z1 z2 Hb1=>?_
         have bb1:=Bk.below (cs:=#[.string ⟨S.toArray⟩,.slice A n k,.bool f]) (by exact iy w _ _ _ _:Bk _ w.heap.size 115 _) Hb1.out (by simp;omega);obtain⟨v0,v1,v2,g0,g1,g2⟩:=bb1.three))
  case' c3=>
    obtain⟨j,hj⟩:∃j,r2.length=j:=⟨_,rfl⟩;obtain⟨hS,hlt,hg⟩:=ku (m:=j+1) h (by simp[hj]);obtain⟨hlt0,hg0⟩:=wB h hj;have hi:((j:Int)+1)<(j:Int)+1+1:=by omega
    have hmb:j≤998:=by omega
    have HJ:=aa hj;clear hj;have H:=aa h;clear h;go_enter Tryz.func92,Tryz.ntmps92
    go_wp2_with (first
      | (go_at_call 128;refine np w (qh S A n k _ _ _ (H.out.next (by go_grown)) (by simp) (by simp;omega)) fun w1 S1 A1 n1 k1 Hx1 hz1 q1 kk1 y0 y1 y2 z0 z1 z2 Hb1=>?_
         have bb1:=Bk.below (cs:=#[.string ⟨S.toArray⟩,.slice A n k,.bool f]) (by exact iy w _ _ _ _:Bk _ w.heap.size 115 _) Hb1.out (by simp;omega);obtain⟨v0,v1,v2,g0,g1,g2⟩:=bb1.three;obtain⟨hS1,hlt1,hg1⟩:=ku Hx1.out HJ.out)
      | (go_at_call 129;refine CH bb1 fun F hF hgF=>?_
         refine(sQ S1 A1 n1 k1 _ _ d b at_ _ ⟨Hx1.out.1,Hx1.out.2.1,Hx1.out.2.2.keep hgF (bb1.row (by decide))⟩ (d,q) rfl (by simp;omega)).mono ?_;rintro e w2 ⟨S2,A2,n2,k2,rfl,hx2,hb2⟩;have Hx2:=aa hx2;clear hx2;have q2:Below w.heap.size w w2:=(q1.grown hgF q1.size (by intro j hj;injection hj with hj;omega)).trans (hb2.mono (aA q1.size hgF.size));have kk2:=(kk1.grown hgF (by simp)).below hb2 (bA kk1.lt hgF.size);obtain⟨y0,y1,y2,z0,z1,z2⟩:=kk2.three))
  case' c4=>
    obtain⟨m,hm⟩:∃m,r.length=m:=⟨_,rfl⟩;obtain⟨hS,hlt,hg⟩:=ku h hm;have hi:(m:Int)<(m:Int)+1:=by omega
    have hmb:m≤998:=by omega
    have HM:=aa hm;clear hm;have H:=aa h;clear h;go_enter Tryz.func92,Tryz.ntmps92
    go_wp2_with (first
      | (go_at_call 127;refine np w (nA S A n k r 67 _ p _ _ (H.out.next (by go_grown)) (by omega)) fun w1 S1 A1 n1 k1 Hx1 hz1 q1 kk1 y0 y1 y2 z0 z1 z2 Hb1=>?_
         have bb1:=Bk.below (cs:=#[.string ⟨S.toArray⟩,.slice A n k,.bool f]) (by exact iy w _ _ _ _:Bk _ w.heap.size 115 _) Hb1.out (by simp;omega);obtain⟨v0,v1,v2,g0,g1,g2⟩:=bb1.three)
      | (go_at_call 129;refine CH bb1 fun F hF hgF=>?_
         refine(sQ S1 A1 n1 k1 _ _ 67 b at_ _ ⟨Hx1.out.1,Hx1.out.2.1,Hx1.out.2.2.keep hgF (bb1.row (by decide))⟩ (67,p) rfl (by simp;omega)).mono ?_;rintro e w2 ⟨S2,A2,n2,k2,rfl,hx2,hb2⟩;have Hx2:=aa hx2;clear hx2;have q2:Below w.heap.size w w2:=(q1.grown hgF q1.size (by intro j hj;injection hj with hj;omega)).trans (hb2.mono (aA q1.size hgF.size));have kk2:=(kk1.grown hgF (by simp)).below hb2 (bA kk1.lt hgF.size);obtain⟨y0,y1,y2,z0,z1,z2⟩:=kk2.three))
  case' c5=>
    obtain⟨m,hm⟩:∃m,r.length=m:=⟨_,rfl⟩;obtain⟨hS,hlt,hg⟩:=ku h hm;have hi:(m:Int)<(m:Int)+1:=by omega
    have hmb:m≤998:=by omega
    have HM:=aa hm;clear hm;have H:=aa h;clear h;go_enter Tryz.func92,Tryz.ntmps92
    go_wp2_with (first
      | (go_at_call 127;refine np w (nA S A n k r 65 _ p _ _ (H.out.next (by go_grown)) (by omega)) fun w1 S1 A1 n1 k1 Hx1 hz1 q1 kk1 y0 y1 y2 z0 z1 z2 Hb1=>?_
         have bb1:=Bk.below (cs:=#[.string ⟨S.toArray⟩,.slice A n k,.bool f]) (by exact iy w _ _ _ _:Bk _ w.heap.size 115 _) Hb1.out (by simp;omega);obtain⟨v0,v1,v2,g0,g1,g2⟩:=bb1.three)
      | (go_at_call 129;refine CH bb1 fun F hF hgF=>?_
         refine(sQ S1 A1 n1 k1 _ _ 65 b at_ _ ⟨Hx1.out.1,Hx1.out.2.1,Hx1.out.2.2.keep hgF (bb1.row (by decide))⟩ (65,p) rfl (by simp;omega)).mono ?_;rintro e w2 ⟨S2,A2,n2,k2,rfl,hx2,hb2⟩;have Hx2:=aa hx2;clear hx2;have q2:Below w.heap.size w w2:=(q1.grown hgF q1.size (by intro j hj;injection hj with hj;omega)).trans (hb2.mono (aA q1.size hgF.size));have kk2:=(kk1.grown hgF (by simp)).below hb2 (bA kk1.lt hgF.size);obtain⟨y0,y1,y2,z0,z1,z2⟩:=kk2.three))
  all_goals (
    all_goals first
    | (refine jq kk2 fun F hF hgF x0 x1 x2=>?_
       refine aK (by simp[results,Tryz.results92,go_sem,x0,x1,x2];try rfl) rfl ?_;refine gh (by omega) Hx2.out q2 kk2 hF hgF ?_ ?_)
    | (refine jq kk1 fun F hF hgF x0 x1 x2=>?_
       refine aK (by simp[results,Tryz.results92,go_sem,x0,x1,x2];try rfl) rfl ?_;refine gh (by omega) Hx1.out q1 kk1 hF hgF ?_ ?_)
    | (go_returns;refine jh H.out (by go_grown) ?_ ?_)
    all_goals go_light
    all_goals try simp only[aR,az,ne_eq] at *
    all_goals unfold eG
    all_goals try dsimp only
    all_goals (repeat (first|rw[aD (by first|decide|omega|(simp;done)|(simp;omega))]|rw[aB (by first|decide|omega|(simp;done)|(simp;omega))]))
    all_goals first|rfl|(simp;done)|(rw[bB];simp;omega)|(have e:=Hst.out;generalize st.tail=r at *;subst e;rfl))
abbrev Ai:=rj.1
abbrev Ah:=rj.2.1
abbrev Af:=rj.2.2.1
abbrev IF:=rj.2.2.2.1
abbrev IE:=rj.2.2.2.2.1
abbrev IG:=rj.2.2.2.2.2
theorem tw (k:Nat) (st:eU) (f:Bool) (b:UInt8) (at_:Int) (w:World) (h:Rs w S A n k st) (hbot:l9 st) (hl:st.length≤990) :
    sL 92 S A n k f b at_ w (eG st f b at_).1 (eG st f b at_).2:=by
  match st,hbot with
  | (c,p)::r,hbot=>
    simp only[aP] at hl;rcases aF (c=76) with rfl|h76
    ·match r,hbot with
     | [],hbot=>exact absurd hbot.single (by decide)
     | (d,q)::r2,_=>
       simp only[aP] at hl;rcases aF (b=40) with rfl|hb40
       ·exact Er S A n k f at_ p w _ (by simp;omega) h
       rcases aF (b=36) with rfl|hb36
       ·exact Es S A n k f at_ p w _ (by simp;omega) h
       rcases aF (b=123) with rfl|hb123
       ·rcases aF (d=68) with rfl|hd68
        ·exact Ai S A n k f at_ p w r2 q (by omega) h
        rcases aF (d=73) with rfl|hd73
        ·exact Ah S A n k f at_ p w r2 q (by omega) h
        exact Af S A n k f at_ p w r2 q (by omega) d (bf d 68 hd68) (bf d 73 hd73) h
       exact IF S A n k f at_ p w r2 q (by omega) d b (bf b 40 hb40) (bf b 123 hb123) (bf b 36 hb36) h
    rcases aF (c=79) with rfl|h79
    ·rcases aF (b=40) with rfl|hb40
     ·exact Eq S A n k f at_ p w r (by omega) h
     exact IE S A n k f at_ p w r (by omega) b (bf b 40 hb40) h
    rcases aF (c=69) with rfl|h69
    ·rcases aF (b=41) with rfl|hb41
     ·exact Et S A n k f at_ p w r (by omega) h
     exact IG S A n k f at_ p w r (by omega) b (bf b 41 hb41) h
    exact NF S A n k f at_ p w r (by omega) c b (bf c 76 h76) (bf c 79 h79) (bf c 69 h69) h
theorem La (cs:List Value) (t:TypeId) (sz m:Nat) (hl:cs.length=m*sz) (hm:m≤1000):Rt (w.alloc (.cells cs.toArray t)) t sz (.slice (some ⟨w.heap.size,0,none⟩) m m) m cs:=by
  refine⟨hl,_,_,rfl,au _,by unfold maxLen;omega,by simp,fun _=>⟨w.heap.size,0,cs.toArray,(0,0),rfl,Bk.new w t cs.toArray,fun j u hj=>?_⟩⟩;rw[cM,Bk.cell (Bk.new w t cs.toArray)];simpa using hj
theorem xd:Calls Tryz.prog 91 #[] w (Ro w [(84,0)] true):=by
  go_enter Tryz.func91,Tryz.ntmps91;go_wp2;go_returns;refine⟨[84],_,1,1,rfl,⟨rfl,rfl,?_⟩,by go_grown⟩
  have:=La (w.alloc (.cells #[Value.string {data:=#[84]},Value.slice (some {block:=w.heap.size+1,off:=0}) 1 1,Value.bool true] 115)) [.int .i64 0] 3 1 1 rfl (by omega)
  simpa [rP] using this
theorem MF {w:World} {c:Nat} {t:TypeId} (hb:Bk w c t #[u0,u1,u2]) :
    Bk (((w.setCell ⟨c,0,none⟩ v0).setCell ⟨c,1,none⟩ v1).setCell ⟨c,2,none⟩ v2) c t #[v0,v1,v2]∧w.grownBy (((w.setCell ⟨c,0,none⟩ v0).setCell ⟨c,1,none⟩ v1).setCell ⟨c,2,none⟩ v2) (some c):=
  ⟨by simpa using ((hb.set 0 v0).set 1 v1).set 2 v2,ef (ef (ef (fD _ _) _ _) _ _) _ _⟩
def Ie (w wr:World) (bx:Nat) (l:List UInt8) (k:Nat):Prop:=
  ∃S A n c,Bk wr bx 115 #[.string ⟨S.toArray⟩,.slice A n c,.bool (fY l k).2]∧Rs wr S A n c (fY l k).1∧Below w.heap.size w wr ∧
   Bk wr w.heap.size 115 #[.string ⟨#[]⟩,.slice none 0 0,.bool false]
theorem xY {w:World} (hlt:k<l.length) (kk:Bk w2 bx 115 #[cs.1,cs.2.1,cs.2.2]) (hx:Rs w2 S2 A2 n2 c2 (eG (fY l k).1 (fY l k).2 ((ByteArray.mk l.toArray)[k]'hlt) k).1) (hbel:Below w.heap.size w wr) (hb2:Below wr.heap.size wr w2) (hres:Bk wr w.heap.size 115 #[.string ⟨#[]⟩,.slice none 0 0,.bool false]) (hne:w.heap.size<bx) :
    Ie w (((w2.setCell ⟨bx,0,none⟩ (.string ⟨S2.toArray⟩)).setCell ⟨bx,1,none⟩ (.slice A2 n2 c2)).setCell ⟨bx,2,none⟩ (.bool (eG (fY l k).1 (fY l k).2 ((ByteArray.mk l.toArray)[k]'hlt) k).2)) bx l (k+1):=by
  have e:fY l (k+1)=eG (fY l k).1 (fY l k).2 ((ByteArray.mk l.toArray)[k]'hlt) k:=by
    show eG _ _ (l.getD k 0) _=_;rw[lz,aE,ax hlt];rfl
  obtain⟨hF,hgF⟩:=MF kk (v0:=.string ⟨S2.toArray⟩) (v1:=.slice A2 n2 c2) (v2:=.bool (eG (fY l k).1 (fY l k).2 ((ByteArray.mk l.toArray)[k]'hlt) k).2);rw[←e] at hx hF hgF ⊢;have hb:=hbel.trans (hb2.mono hbel.size)
  exact⟨S2,A2,n2,c2,hF,⟨hx.1,hx.2.1,hx.2.2.keep hgF (kk.row (by decide))⟩,hb.grown hgF hb.size (by intro j hj;injection hj with hj;omega),
    (hres.below hb2 hres.lt).grown hgF (by simp;omega)⟩
theorem MI (l:List UInt8) (w:World) (hl:l.length≤900):Calls Tryz.prog 142 #[.string ⟨l.toArray⟩] w (Ro w (fY l l.length).1 (fY l l.length).2):=by
  go_enter Tryz.func142,Tryz.ntmps142
  go_wp2_with (go_at_call 91;refine(xd _).mono ?_
               rintro e w1 ⟨S1,A1,n1,k1,rfl,hx1,hb1⟩)
  have H1:=aa (ac hx1 hb1);have hw1:w.heap.size+1≤w1.heap.size:=by have:=hb1.size;simpa using this
  clear hx1 hb1;generalize hbx:w1.heap.size=bx at *;have HBX:=aa hbx;clear hbx;go_loopw [4] (fun i wr=>∃k:Nat,k≤l.length∧i=.int .i64 k∧Ie w wr bx l k) (fun i _=>l.length-(intOf i).toNat)
  case atStart=>
    obtain⟨hx1,hb1⟩:=H1.out;have e:=HBX.out;subst e;have hb0:Below w.heap.size w w1:=jK (by go_grown) hb1;refine⟨0,by omega,rfl,S1,A1,n1,k1,Bk.new _ _ _,hx1.next (by go_grown),hb0.alloc hb0.size _,?_⟩
    exact((Bk.new w 115 _).below hb1 (by simp)).alloc _
  case round=>
    obtain⟨k,hk,rfl,S,A,n,c,hbk,hrs,hbel,hres⟩:=hrel;have hbot:=kU l k;have hlen:=ji l k;obtain⟨y0,y1,y2,z0,z1,z2⟩:=hbk.three;have HR:=aa (ac hrs (ac hbel (ac hres (ac hbk hbot))));clear hrs hbel hres hbk hbot;by_cases hlt:k<l.length
    ·have hi0:(0:Int)≤(k:Int):=by omega
     have hi1:(k:Int)<(l.length:Int):=by omega
     go_wp2_with fail
     go_region_with (first
       | (go_at_call 92;refine(tw S A n c _ _ _ _ _ (HR.out.1.next (by go_grown)) HR.out.2.2.2.2 (by omega)).mono ?_;rintro e w2 ⟨S2,A2,n2,c2,rfl,hx2,hb2⟩;have hb2':Below wr.heap.size wr w2:=jK (by go_grown) hb2;have kk:=HR.out.2.2.2.1.below hb2' HR.out.2.2.2.1.lt;obtain⟨v0,v1,v2,g0,g1,g2⟩:=kk.three;have H2:=aa (ac hx2 hb2');clear hx2 hb2 hb2'))
     all_goals go_wp2
     all_goals go_roundw
     all_goals first
       | (simp[intOf];omega)
       | exact⟨k+1,by omega,by go_num,xY (cs:=(_,_,_)) hlt kk H2.out.1 HR.out.2.1 H2.out.2 HR.out.2.2.1 (by omega)⟩
    ·obtain⟨x0,x1,x2,x3,x4,x5⟩:=HR.out.2.2.1.three;go_wp2;refine jq HR.out.2.2.1 fun F hF hgF x0 x1 x2=>?_
     refine aK (by simp[results,Tryz.results142,go_sem,x0,x1,x2];try rfl) rfl ?_;have e:k=l.length:=by omega
     subst e;exact gh (au _) HR.out.1 HR.out.2.1 HR.out.2.2.1 hF hgF rfl rfl
end Go.Proofs.YtcagfamdoaoimaaGreatDoor
