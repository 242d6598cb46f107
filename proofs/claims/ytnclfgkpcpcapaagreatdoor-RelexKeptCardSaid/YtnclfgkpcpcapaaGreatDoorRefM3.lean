/- The reference's step of the machine in all plain modes (quillwortref06.plain), joined: it computes rPlain. -/
import Derived.Test.YtnclfgkpcpcapaaGreatDoorRefP1
import Derived.Test.YtnclfgkpcpcapaaGreatDoorPl6
namespace Go.Proofs.YtnclfgkpcpcapaaGreatDoor
open Go.RowKit
set_option linter.unusedVariables false
set_option linter.unusedSimpArgs false
set_option maxRecDepth 100000
theorem bf (b v:UInt8) (h:b≠v):((b.toNat:Int)==(v.toNat:Int))=false:=by
  rw[beq_eq_false_iff_ne]
  intro e
  exact h (UInt8.toNat_inj.1 (by omega))
theorem no_opens (b:UInt8) (h1:b≠92) (h2:b≠36) (h3:b≠96):opensL b=[]:=by
  have:=byte_all (fun b=>b==92||b==36||b==96||opensL b==[]) (by decide +kernel) b
  simpa [h1,h2,h3] using this
theorem plain_r (S:List UInt8) (A:Option Addr) (n k:Nat) (st:Stk) (f:Bool) (c b:UInt8) (at_:Int) (w:World) (h:Rs w S A n k st) (hd:UInt8×Int) (hst:st=hd::st.tail) (hl:st.length≤1000) :
    Calls Tryz.prog 79 #[.agg #[.string ⟨S.toArray⟩,.slice A n k,.bool f],.int .u8 (c.toNat:Int),.int .u8 (b.toNat:Int),.int .i64 at_] w (Ro w (rPlain st f c b at_).1 (rPlain st f c b at_).2):=by
  rcases Decidable.em (c=84) with rfl|hnc84
  ·exact pl_84 S A n k st f b at_ w h hd hst hl
  rcases Decidable.em (c=67) with rfl|hnc67
  ·exact pl_67 S A n k st f b at_ w h hd hst hl
  rcases Decidable.em (c=80) with rfl|hnc80
  ·exact pl_80 S A n k st f b at_ w h hd hst hl
  rcases Decidable.em (c=88) with rfl|hnc88
  ·rcases Decidable.em (b=10) with rfl|hnb10
   ·exact pl_88a S A n k st f at_ w h hd hst hl
   exact pl_88b S A n k st f b at_ w h hd hst hl (bf b 10 (by assumption))
  rcases Decidable.em (c=83) with rfl|hnc83
  ·rcases Decidable.em (b=39) with rfl|hnb39
   ·exact pl_gb.1 S A n k st f at_ w h hd hst hl
   exact pl_gb.2.1 b (bf b 39 (by assumption)) S A n k st f at_ w h hd hst hl
  rcases Decidable.em (c=35) with rfl|hnc35
  ·rcases Decidable.em (b=10) with rfl|hnb10
   ·exact pl_gb.2.2.1 S A n k st f at_ w h hd hst hl
   exact pl_gb.2.2.2.1 b (bf b 10 (by assumption)) S A n k st f at_ w h hd hst hl
  rcases Decidable.em (c=66) with rfl|hnc66
  ·rcases Decidable.em (b=96) with rfl|hnb96
   ·exact pl_gb.2.2.2.2.1 S A n k st f at_ w h hd hst hl
   rcases Decidable.em (b=92) with rfl|hnb92
   ·exact pl_gb.2.2.2.2.2.1 S A n k st f at_ w h hd hst hl
   exact pl_gb.2.2.2.2.2.2 b (bf b 96 (by assumption)) (bf b 92 (by assumption)) S A n k st f at_ w h hd hst hl
  rcases Decidable.em (c=65) with rfl|hnc65
  ·rcases Decidable.em (b=92) with rfl|hnb92
   ·exact pl_o92 S A n k st f 65 at_ w h hd hst hl rfl rfl rfl rfl rfl rfl rfl
   rcases Decidable.em (b=36) with rfl|hnb36
   ·exact pl_o36 S A n k st f 65 at_ w h hd hst hl rfl rfl rfl rfl rfl rfl rfl
   rcases Decidable.em (b=96) with rfl|hnb96
   ·exact pl_o96 S A n k st f 65 at_ w h hd hst hl rfl rfl rfl rfl rfl rfl rfl
   rcases Decidable.em (b=40) with rfl|hnb40
   ·exact pl_gd.1 (by decide) S A n k st f at_ w h hd hst hl
   rcases Decidable.em (b=41) with rfl|hnb41
   ·exact pl_gd.2.1 (by decide) S A n k st f at_ w h hd hst hl
   exact pl_gd.2.2.1 b (bf b 92 (by assumption)) (bf b 36 (by assumption)) (bf b 96 (by assumption)) (bf b 40 (by assumption)) (bf b 41 (by assumption)) (no_opens b (by assumption) (by assumption) (by assumption)) S A n k st f at_ w h hd hst hl
  rcases Decidable.em (c=82) with rfl|hnc82
  ·rcases Decidable.em (b=92) with rfl|hnb92
   ·exact pl_o92 S A n k st f 82 at_ w h hd hst hl rfl rfl rfl rfl rfl rfl rfl
   rcases Decidable.em (b=36) with rfl|hnb36
   ·exact pl_o36 S A n k st f 82 at_ w h hd hst hl rfl rfl rfl rfl rfl rfl rfl
   rcases Decidable.em (b=96) with rfl|hnb96
   ·exact pl_o96 S A n k st f 82 at_ w h hd hst hl rfl rfl rfl rfl rfl rfl rfl
   rcases Decidable.em (b=40) with rfl|hnb40
   ·exact pl_gd.2.2.2.1 (by decide) S A n k st f at_ w h hd hst hl
   rcases Decidable.em (b=41) with rfl|hnb41
   ·exact pl_gd.2.2.2.2.1 (by decide) S A n k st f at_ w h hd hst hl
   exact pl_gd.2.2.2.2.2 b (bf b 92 (by assumption)) (bf b 36 (by assumption)) (bf b 96 (by assumption)) (bf b 40 (by assumption)) (bf b 41 (by assumption)) (no_opens b (by assumption) (by assumption) (by assumption)) S A n k st f at_ w h hd hst hl
  rcases Decidable.em (c=68) with rfl|hnc68
  ·rcases Decidable.em (b=92) with rfl|hnb92
   ·exact pl_o92 S A n k st f 68 at_ w h hd hst hl rfl rfl rfl rfl rfl rfl rfl
   rcases Decidable.em (b=36) with rfl|hnb36
   ·exact pl_o36 S A n k st f 68 at_ w h hd hst hl rfl rfl rfl rfl rfl rfl rfl
   rcases Decidable.em (b=96) with rfl|hnb96
   ·exact pl_o96 S A n k st f 68 at_ w h hd hst hl rfl rfl rfl rfl rfl rfl rfl
   rcases Decidable.em (b=34) with rfl|hnb34
   ·exact pl_ge.1 (by decide) S A n k st f at_ w h hd hst hl
   exact pl_ge.2.1 b (bf b 92 (by assumption)) (bf b 36 (by assumption)) (bf b 96 (by assumption)) (bf b 34 (by assumption)) (no_opens b (by assumption) (by assumption) (by assumption)) S A n k st f at_ w h hd hst hl
  rcases Decidable.em (c=86) with rfl|hnc86
  ·rcases Decidable.em (b=92) with rfl|hnb92
   ·exact pl_o92 S A n k st f 86 at_ w h hd hst hl rfl rfl rfl rfl rfl rfl rfl
   rcases Decidable.em (b=36) with rfl|hnb36
   ·exact pl_o36 S A n k st f 86 at_ w h hd hst hl rfl rfl rfl rfl rfl rfl rfl
   rcases Decidable.em (b=96) with rfl|hnb96
   ·exact pl_o96 S A n k st f 86 at_ w h hd hst hl rfl rfl rfl rfl rfl rfl rfl
   rcases Decidable.em (b=34) with rfl|hnb34
   ·exact pl_ge.2.2.1 86 rfl rfl rfl rfl rfl rfl rfl rfl rfl rfl (by decide) S A n k st f at_ w h hd hst hl
   rcases Decidable.em (b=125) with rfl|hnb125
   ·exact pl_ge.2.2.2.1 86 rfl rfl rfl rfl rfl rfl rfl rfl rfl rfl (by decide) S A n k st f at_ w h hd hst hl
   rcases Decidable.em (b=39) with rfl|hnb39
   ·exact pl_ge.2.2.2.2.1 (by decide) S A n k st f at_ w h hd hst hl
   exact pl_ge.2.2.2.2.2.2 86 b rfl rfl rfl rfl rfl rfl rfl rfl rfl rfl (bf b 92 (by assumption)) (bf b 36 (by assumption)) (bf b 96 (by assumption)) (bf b 34 (by assumption)) (bf b 125 (by assumption)) (bf b 39 (by assumption)) (no_opens b (by assumption) (by assumption) (by assumption)) S A n k st f at_ w h hd hst hl
  rcases Decidable.em (b=92) with rfl|hnb92
  ·exact pl_o92 S A n k st f c at_ w h hd hst hl (bf c 84 (by assumption)) (bf c 67 (by assumption)) (bf c 80 (by assumption)) (bf c 88 (by assumption)) (bf c 83 (by assumption)) (bf c 35 (by assumption)) (bf c 66 (by assumption))
  rcases Decidable.em (b=36) with rfl|hnb36
  ·exact pl_o36 S A n k st f c at_ w h hd hst hl (bf c 84 (by assumption)) (bf c 67 (by assumption)) (bf c 80 (by assumption)) (bf c 88 (by assumption)) (bf c 83 (by assumption)) (bf c 35 (by assumption)) (bf c 66 (by assumption))
  rcases Decidable.em (b=96) with rfl|hnb96
  ·exact pl_o96 S A n k st f c at_ w h hd hst hl (bf c 84 (by assumption)) (bf c 67 (by assumption)) (bf c 80 (by assumption)) (bf c 88 (by assumption)) (bf c 83 (by assumption)) (bf c 35 (by assumption)) (bf c 66 (by assumption))
  rcases Decidable.em (b=34) with rfl|hnb34
  ·exact pl_ge.2.2.1 c (bf c 84 (by assumption)) (bf c 67 (by assumption)) (bf c 80 (by assumption)) (bf c 88 (by assumption)) (bf c 83 (by assumption)) (bf c 35 (by assumption)) (bf c 66 (by assumption)) (bf c 65 (by assumption)) (bf c 82 (by assumption)) (bf c 68 (by assumption)) (by decide) S A n k st f at_ w h hd hst hl
  rcases Decidable.em (b=125) with rfl|hnb125
  ·exact pl_ge.2.2.2.1 c (bf c 84 (by assumption)) (bf c 67 (by assumption)) (bf c 80 (by assumption)) (bf c 88 (by assumption)) (bf c 83 (by assumption)) (bf c 35 (by assumption)) (bf c 66 (by assumption)) (bf c 65 (by assumption)) (bf c 82 (by assumption)) (bf c 68 (by assumption)) (by decide) S A n k st f at_ w h hd hst hl
  rcases Decidable.em (b=39) with rfl|hnb39
  ·exact pl_ge.2.2.2.2.2.1 c (bf c 84 (by assumption)) (bf c 67 (by assumption)) (bf c 80 (by assumption)) (bf c 88 (by assumption)) (bf c 83 (by assumption)) (bf c 35 (by assumption)) (bf c 66 (by assumption)) (bf c 65 (by assumption)) (bf c 82 (by assumption)) (bf c 68 (by assumption)) (bf c 86 (by assumption)) (by decide) S A n k st f at_ w h hd hst hl
  exact pl_ge.2.2.2.2.2.2 c b (bf c 84 (by assumption)) (bf c 67 (by assumption)) (bf c 80 (by assumption)) (bf c 88 (by assumption)) (bf c 83 (by assumption)) (bf c 35 (by assumption)) (bf c 66 (by assumption)) (bf c 65 (by assumption)) (bf c 82 (by assumption)) (bf c 68 (by assumption)) (bf b 92 (by assumption)) (bf b 36 (by assumption)) (bf b 96 (by assumption)) (bf b 34 (by assumption)) (bf b 125 (by assumption)) (bf b 39 (by assumption)) (no_opens b (by assumption) (by assumption) (by assumption)) S A n k st f at_ w h hd hst hl
end Go.Proofs.YtnclfgkpcpcapaaGreatDoor
namespace Go.Proofs.YtnclfgkpcpcapaaGreatDoor
open Go.RowKit
set_option linter.unusedVariables false
set_option linter.unusedSimpArgs false
set_option maxRecDepth 100000
theorem rs_top {w:World} {S:List UInt8} {A:Option Addr} {n k m:Nat} {c:UInt8} {p:Int} {r:Stk} (h:Rs w S A n k ((c,p)::r)) (hm:r.length=m) :
    S.length=m+1∧∃hlt:m<(ByteArray.mk S.toArray).size,(ByteArray.mk S.toArray)[m]'hlt=c:=by
  have hl:=h.len
  have h1:=h.1
  rw[rS_cons] at h1
  subst h1 hm
  refine⟨by simp[rS_len],by show r.length<(rS r++[c]).length;simp[rS_len],?_⟩
  rw[ba_get,List.getElem_append_right (by simp[rS_len])]
  simp[rS_len]
set_option maxHeartbeats 2000000 in
theorem st_76_40 (S:List UInt8) (A:Option Addr) (n k:Nat) (f:Bool) (at_ p:Int) (w:World) (r:Stk) (hl:r.length≤998) (h:Rs w S A n k ((76,p)::r)) :
    Calls Tryz.prog 59 #[.agg #[.string ⟨S.toArray⟩,.slice A n k,.bool f],.int .u8 ((40:UInt8).toNat:Int),.int .i64 at_] w (Ro w (rStep ((76,p)::r) f 40 at_).1 (rStep ((76,p)::r) f 40 at_).2):=by
  obtain⟨m,hm⟩:∃m,r.length=m:=⟨_,rfl⟩
  obtain⟨hS,hlt,hg⟩:=rs_top h hm
  have hi:(m:Int)<(m:Int)+1:=by omega
  have hmb:m≤998:=by omega
  have HM:=Lib.hid hm
  clear hm
  have H:=Lib.hid h
  clear h
  go_enter Tryz.func59,Tryz.ntmps59
  go_wp2_with (first
    | (go_at_call 77;refine(turn_r S A n k r _ 76 p _ _ (H.out.next (by go_grown)) (by omega)).mono ?_
       rintro e w1 ⟨S1,A1,n1,k1,rfl,hx1,hb1⟩
       have Hx1:=Lib.hid hx1
       clear hx1
       have hz1:=hb1.size
       have hz1:w.heap.size+1<w1.heap.size:=by simp at hz1;omega
       have q1:Below w.heap.size w w1:=below_next (by go_grown) hb1
       have kk1:=Bk.below (cs:=#[.string ⟨#[]⟩,.slice none 0 0,.bool false]) (by first|exact bk_second w _ _ _ _|exact(bk_second w _ _ _ _).drew:Bk _ (w.heap.size+1) 95 _) hb1 (by simp)
       obtain⟨y0,y1,y2,z0,z1,z2⟩:=kk1.three
       have Hb1:=Lib.hid hb1
       clear hb1
       have bb1:=Bk.below (cs:=#[.string ⟨S.toArray⟩,.slice A n k,.bool f]) (by exact bk_first w _ _ _ _:Bk _ w.heap.size 95 _) Hb1.out (by simp;omega)
       obtain⟨v0,v1,v2,g0,g1,g2⟩:=bb1.three)
    | (go_at_call 76;refine(mark_r S1 A1 n1 k1 _ _ _ _ Hx1.out).mono ?_
       rintro e w2 ⟨S2,A2,n2,k2,rfl,hx2,hb2⟩
       have Hx2:=Lib.hid hx2
       clear hx2
       have q2:Below w.heap.size w w2:=q1.trans (hb2.mono q1.size)
       have kk2:=kk1.below hb2 kk1.lt
       obtain⟨y0,y1,y2,z0,z1,z2⟩:=kk2.three))
  all_goals first
  | (refine fin3 kk2 fun F hF hgF x0 x1 x2=>?_
     refine bodyPost_ret (by simp[results,Tryz.results59,go_sem,x0,x1,x2];try rfl) rfl ?_
     refine ro_fin (by omega) Hx2.out q2 kk2 hF hgF ?_ ?_)
  | (refine fin3 kk1 fun F hF hgF x0 x1 x2=>?_
     refine bodyPost_ret (by simp[results,Tryz.results59,go_sem,x0,x1,x2];try rfl) rfl ?_
     refine ro_fin (by omega) Hx1.out q1 kk1 hF hgF ?_ ?_)
  | (go_returns
     refine ro_same H.out (by go_grown) ?_ ?_)
  all_goals go_light
  all_goals try simp only[beq_iff_eq,beq_eq_false_iff_ne,ne_eq] at *
  all_goals unfold rStep
  all_goals try dsimp only
  all_goals (repeat (first|rw[if_pos (by first|decide|omega|(simp;done)|(simp;omega))]|rw[if_neg (by first|decide|omega|(simp;done)|(simp;omega))]))
  all_goals first|rfl|(simp;done)|(rw[Bool.eq_iff_iff];simp;omega)|(have e:=Hst.out;generalize st.tail=r at *;subst e;rfl)
set_option maxHeartbeats 2000000 in
theorem st_76_36 (S:List UInt8) (A:Option Addr) (n k:Nat) (f:Bool) (at_ p:Int) (w:World) (r:Stk) (hl:r.length≤998) (h:Rs w S A n k ((76,p)::r)) :
    Calls Tryz.prog 59 #[.agg #[.string ⟨S.toArray⟩,.slice A n k,.bool f],.int .u8 ((36:UInt8).toNat:Int),.int .i64 at_] w (Ro w (rStep ((76,p)::r) f 36 at_).1 (rStep ((76,p)::r) f 36 at_).2):=by
  obtain⟨m,hm⟩:∃m,r.length=m:=⟨_,rfl⟩
  obtain⟨hS,hlt,hg⟩:=rs_top h hm
  have hi:(m:Int)<(m:Int)+1:=by omega
  have hmb:m≤998:=by omega
  have HM:=Lib.hid hm
  clear hm
  have H:=Lib.hid h
  clear h
  go_enter Tryz.func59,Tryz.ntmps59
  go_wp2_with (first
    | (go_at_call 78;refine(pop_r S A n k _ _ _ (H.out.next (by go_grown)) (by simp) (by simp;omega)).mono ?_
       rintro e w1 ⟨S1,A1,n1,k1,rfl,hx1,hb1⟩
       have Hx1:=Lib.hid hx1
       clear hx1
       have hz1:=hb1.size
       have hz1:w.heap.size+1<w1.heap.size:=by simp at hz1;omega
       have q1:Below w.heap.size w w1:=below_next (by go_grown) hb1
       have kk1:=Bk.below (cs:=#[.string ⟨#[]⟩,.slice none 0 0,.bool false]) (by first|exact bk_second w _ _ _ _|exact(bk_second w _ _ _ _).drew:Bk _ (w.heap.size+1) 95 _) hb1 (by simp)
       obtain⟨y0,y1,y2,z0,z1,z2⟩:=kk1.three
       have Hb1:=Lib.hid hb1
       clear hb1
       have bb1:=Bk.below (cs:=#[.string ⟨S.toArray⟩,.slice A n k,.bool f]) (by exact bk_first w _ _ _ _:Bk _ w.heap.size 95 _) Hb1.out (by simp;omega)
       obtain⟨v0,v1,v2,g0,g1,g2⟩:=bb1.three))
  all_goals (refine fin33 bb1 kk1 (by omega) fun F0 F hB0 hg0 hF hgF x0 x1 x2=>?_
             refine bodyPost_ret (by simp[results,Tryz.results59,go_sem,x0,x1,x2];try rfl) rfl ?_
             refine ro_fin (by omega) ⟨Hx1.out.1,Hx1.out.2.1,Hx1.out.2.2.keep hg0 (bb1.row (by decide))⟩ (q1.grown hg0 q1.size (by intro j hj;injection hj with hj;omega)) hB0 hF hgF ?_ ?_)
  all_goals go_light
  all_goals try simp only[beq_iff_eq,beq_eq_false_iff_ne,ne_eq] at *
  all_goals unfold rStep
  all_goals try dsimp only
  all_goals (repeat (first|rw[if_pos (by first|decide|omega|(simp;done)|(simp;omega))]|rw[if_neg (by first|decide|omega|(simp;done)|(simp;omega))]))
  all_goals first|rfl|(simp;done)|(rw[Bool.eq_iff_iff];simp;omega)|(have e:=Hst.out;generalize st.tail=r at *;subst e;rfl)
set_option maxHeartbeats 2000000 in
theorem st_79_40 (S:List UInt8) (A:Option Addr) (n k:Nat) (f:Bool) (at_ p:Int) (w:World) (r:Stk) (hl:r.length≤998) (h:Rs w S A n k ((79,p)::r)) :
    Calls Tryz.prog 59 #[.agg #[.string ⟨S.toArray⟩,.slice A n k,.bool f],.int .u8 ((40:UInt8).toNat:Int),.int .i64 at_] w (Ro w (rStep ((79,p)::r) f 40 at_).1 (rStep ((79,p)::r) f 40 at_).2):=by
  obtain⟨m,hm⟩:∃m,r.length=m:=⟨_,rfl⟩
  obtain⟨hS,hlt,hg⟩:=rs_top h hm
  have hi:(m:Int)<(m:Int)+1:=by omega
  have hmb:m≤998:=by omega
  have HM:=Lib.hid hm
  clear hm
  have H:=Lib.hid h
  clear h
  go_enter Tryz.func59,Tryz.ntmps59
  go_wp2_with (first
    | (go_at_call 77;refine(turn_r S A n k r 65 _ p _ _ (H.out.next (by go_grown)) (by omega)).mono ?_
       rintro e w1 ⟨S1,A1,n1,k1,rfl,hx1,hb1⟩
       have Hx1:=Lib.hid hx1
       clear hx1
       have hz1:=hb1.size
       have hz1:w.heap.size+1<w1.heap.size:=by simp at hz1;omega
       have q1:Below w.heap.size w w1:=below_next (by go_grown) hb1
       have kk1:=Bk.below (cs:=#[.string ⟨#[]⟩,.slice none 0 0,.bool false]) (by first|exact bk_second w _ _ _ _|exact(bk_second w _ _ _ _).drew:Bk _ (w.heap.size+1) 95 _) hb1 (by simp)
       obtain⟨y0,y1,y2,z0,z1,z2⟩:=kk1.three
       have Hb1:=Lib.hid hb1
       clear hb1
       have bb1:=Bk.below (cs:=#[.string ⟨S.toArray⟩,.slice A n k,.bool f]) (by exact bk_first w _ _ _ _:Bk _ w.heap.size 95 _) Hb1.out (by simp;omega)
       obtain⟨v0,v1,v2,g0,g1,g2⟩:=bb1.three)
    | (go_at_call 76;refine(mark_r S1 A1 n1 k1 _ _ _ _ Hx1.out).mono ?_
       rintro e w2 ⟨S2,A2,n2,k2,rfl,hx2,hb2⟩
       have Hx2:=Lib.hid hx2
       clear hx2
       have q2:Below w.heap.size w w2:=q1.trans (hb2.mono q1.size)
       have kk2:=kk1.below hb2 kk1.lt
       obtain⟨y0,y1,y2,z0,z1,z2⟩:=kk2.three))
  all_goals first
  | (refine fin3 kk2 fun F hF hgF x0 x1 x2=>?_
     refine bodyPost_ret (by simp[results,Tryz.results59,go_sem,x0,x1,x2];try rfl) rfl ?_
     refine ro_fin (by omega) Hx2.out q2 kk2 hF hgF ?_ ?_)
  | (refine fin3 kk1 fun F hF hgF x0 x1 x2=>?_
     refine bodyPost_ret (by simp[results,Tryz.results59,go_sem,x0,x1,x2];try rfl) rfl ?_
     refine ro_fin (by omega) Hx1.out q1 kk1 hF hgF ?_ ?_)
  | (go_returns
     refine ro_same H.out (by go_grown) ?_ ?_)
  all_goals go_light
  all_goals try simp only[beq_iff_eq,beq_eq_false_iff_ne,ne_eq] at *
  all_goals unfold rStep
  all_goals try dsimp only
  all_goals (repeat (first|rw[if_pos (by first|decide|omega|(simp;done)|(simp;omega))]|rw[if_neg (by first|decide|omega|(simp;done)|(simp;omega))]))
  all_goals first|rfl|(simp;done)|(rw[Bool.eq_iff_iff];simp;omega)|(have e:=Hst.out;generalize st.tail=r at *;subst e;rfl)
set_option maxHeartbeats 2000000 in
theorem st_69_41 (S:List UInt8) (A:Option Addr) (n k:Nat) (f:Bool) (at_ p:Int) (w:World) (r:Stk) (hl:r.length≤998) (h:Rs w S A n k ((69,p)::r)) :
    Calls Tryz.prog 59 #[.agg #[.string ⟨S.toArray⟩,.slice A n k,.bool f],.int .u8 ((41:UInt8).toNat:Int),.int .i64 at_] w (Ro w (rStep ((69,p)::r) f 41 at_).1 (rStep ((69,p)::r) f 41 at_).2):=by
  obtain⟨m,hm⟩:∃m,r.length=m:=⟨_,rfl⟩
  obtain⟨hS,hlt,hg⟩:=rs_top h hm
  have hi:(m:Int)<(m:Int)+1:=by omega
  have hmb:m≤998:=by omega
  have HM:=Lib.hid hm
  clear hm
  have H:=Lib.hid h
  clear h
  go_enter Tryz.func59,Tryz.ntmps59
  go_wp2_with (first
    | (go_at_call 78;refine(pop_r S A n k _ _ _ (H.out.next (by go_grown)) (by simp) (by simp;omega)).mono ?_
       rintro e w1 ⟨S1,A1,n1,k1,rfl,hx1,hb1⟩
       have Hx1:=Lib.hid hx1
       clear hx1
       have hz1:=hb1.size
       have hz1:w.heap.size+1<w1.heap.size:=by simp at hz1;omega
       have q1:Below w.heap.size w w1:=below_next (by go_grown) hb1
       have kk1:=Bk.below (cs:=#[.string ⟨#[]⟩,.slice none 0 0,.bool false]) (by first|exact bk_second w _ _ _ _|exact(bk_second w _ _ _ _).drew:Bk _ (w.heap.size+1) 95 _) hb1 (by simp)
       obtain⟨y0,y1,y2,z0,z1,z2⟩:=kk1.three
       have Hb1:=Lib.hid hb1
       clear hb1
       have bb1:=Bk.below (cs:=#[.string ⟨S.toArray⟩,.slice A n k,.bool f]) (by exact bk_first w _ _ _ _:Bk _ w.heap.size 95 _) Hb1.out (by simp;omega)
       obtain⟨v0,v1,v2,g0,g1,g2⟩:=bb1.three))
  all_goals first
  | (refine fin3 kk2 fun F hF hgF x0 x1 x2=>?_
     refine bodyPost_ret (by simp[results,Tryz.results59,go_sem,x0,x1,x2];try rfl) rfl ?_
     refine ro_fin (by omega) Hx2.out q2 kk2 hF hgF ?_ ?_)
  | (refine fin3 kk1 fun F hF hgF x0 x1 x2=>?_
     refine bodyPost_ret (by simp[results,Tryz.results59,go_sem,x0,x1,x2];try rfl) rfl ?_
     refine ro_fin (by omega) Hx1.out q1 kk1 hF hgF ?_ ?_)
  | (go_returns
     refine ro_same H.out (by go_grown) ?_ ?_)
  all_goals go_light
  all_goals try simp only[beq_iff_eq,beq_eq_false_iff_ne,ne_eq] at *
  all_goals unfold rStep
  all_goals try dsimp only
  all_goals (repeat (first|rw[if_pos (by first|decide|omega|(simp;done)|(simp;omega))]|rw[if_neg (by first|decide|omega|(simp;done)|(simp;omega))]))
  all_goals first|rfl|(simp;done)|(rw[Bool.eq_iff_iff];simp;omega)|(have e:=Hst.out;generalize st.tail=r at *;subst e;rfl)
set_option maxHeartbeats 2000000 in
theorem st_e (S:List UInt8) (A:Option Addr) (n k:Nat) (f:Bool) (at_ p:Int) (w:World) (r:Stk) (hl:r.length≤998) (c b:UInt8) (hc76:((c.toNat:Int)==76)=false) (hc79:((c.toNat:Int)==79)=false) (hc69:((c.toNat:Int)==69)=false) (h:Rs w S A n k ((c,p)::r)) :
    Calls Tryz.prog 59 #[.agg #[.string ⟨S.toArray⟩,.slice A n k,.bool f],.int .u8 ((b:UInt8).toNat:Int),.int .i64 at_] w (Ro w (rStep ((c,p)::r) f b at_).1 (rStep ((c,p)::r) f b at_).2):=by
  obtain⟨m,hm⟩:∃m,r.length=m:=⟨_,rfl⟩
  obtain⟨hS,hlt,hg⟩:=rs_top h hm
  have hi:(m:Int)<(m:Int)+1:=by omega
  have hmb:m≤998:=by omega
  have HM:=Lib.hid hm
  clear hm
  have H:=Lib.hid h
  clear h
  go_enter Tryz.func59,Tryz.ntmps59
  go_wp2_with (first
    | (go_at_call 79;refine(plain_r S A n k _ _ c b at_ _ (H.out.next (by go_grown)) (c,p) rfl (by simp;omega)).mono ?_
       rintro e w1 ⟨S1,A1,n1,k1,rfl,hx1,hb1⟩
       have Hx1:=Lib.hid hx1
       clear hx1
       have hz1:=hb1.size
       have hz1:w.heap.size+1<w1.heap.size:=by simp at hz1;omega
       have q1:Below w.heap.size w w1:=below_next (by go_grown) hb1
       have kk1:=Bk.below (cs:=#[.string ⟨#[]⟩,.slice none 0 0,.bool false]) (by first|exact bk_second w _ _ _ _|exact(bk_second w _ _ _ _).drew:Bk _ (w.heap.size+1) 95 _) hb1 (by simp)
       obtain⟨y0,y1,y2,z0,z1,z2⟩:=kk1.three
       have Hb1:=Lib.hid hb1
       clear hb1))
  all_goals first
  | (refine fin3 kk2 fun F hF hgF x0 x1 x2=>?_
     refine bodyPost_ret (by simp[results,Tryz.results59,go_sem,x0,x1,x2];try rfl) rfl ?_
     refine ro_fin (by omega) Hx2.out q2 kk2 hF hgF ?_ ?_)
  | (refine fin3 kk1 fun F hF hgF x0 x1 x2=>?_
     refine bodyPost_ret (by simp[results,Tryz.results59,go_sem,x0,x1,x2];try rfl) rfl ?_
     refine ro_fin (by omega) Hx1.out q1 kk1 hF hgF ?_ ?_)
  | (go_returns
     refine ro_same H.out (by go_grown) ?_ ?_)
  all_goals go_light
  all_goals try simp only[beq_iff_eq,beq_eq_false_iff_ne,ne_eq] at *
  all_goals unfold rStep
  all_goals try dsimp only
  all_goals (repeat (first|rw[if_pos (by first|decide|omega|(simp;done)|(simp;omega))]|rw[if_neg (by first|decide|omega|(simp;done)|(simp;omega))]))
  all_goals first|rfl|(simp;done)|(rw[Bool.eq_iff_iff];simp;omega)|(have e:=Hst.out;generalize st.tail=r at *;subst e;rfl)
end Go.Proofs.YtnclfgkpcpcapaaGreatDoor
namespace Go.Proofs.YtnclfgkpcpcapaaGreatDoor
open Go.RowKit
set_option linter.unusedVariables false
set_option linter.unusedSimpArgs false
set_option maxRecDepth 100000
theorem rs_snd {w:World} {S:List UInt8} {A:Option Addr} {n k m:Nat} {c d:UInt8} {p q:Int} {r:Stk} (h:Rs w S A n k ((c,p)::(d,q)::r)) (hm:r.length=m) :
    ∃hlt:m<(ByteArray.mk S.toArray).size,(ByteArray.mk S.toArray)[m]'hlt=d:=by
  have h1:=h.1
  rw[rS_cons,rS_cons] at h1
  subst h1 hm
  refine⟨by show r.length<(rS r++[d]++[c]).length;simp[rS_len],?_⟩
  rw[ba_get,List.getElem_append_left (by simp[rS_len]),List.getElem_append_right (by simp[rS_len])]
  simp[rS_len]
set_option maxHeartbeats 2000000 in
theorem st_76_123a (S:List UInt8) (A:Option Addr) (n k:Nat) (f:Bool) (at_ p:Int) (w:World) (r2:Stk) (q:Int) (hl:r2.length≤997) (h:Rs w S A n k ((76,p)::(68,q)::r2)) :
    Calls Tryz.prog 59 #[.agg #[.string ⟨S.toArray⟩,.slice A n k,.bool f],.int .u8 ((123:UInt8).toNat:Int),.int .i64 at_] w (Ro w (rStep ((76,p)::(68,q)::r2) f 123 at_).1 (rStep ((76,p)::(68,q)::r2) f 123 at_).2):=by
  obtain⟨j,hj⟩:∃j,r2.length=j:=⟨_,rfl⟩
  obtain⟨hS,hlt,hg⟩:=rs_top (m:=j+1) h (by simp[hj])
  obtain⟨hlt0,hg0⟩:=rs_snd h hj
  have hi:((j:Int)+1)<(j:Int)+1+1:=by omega
  have hmb:j≤998:=by omega
  have HJ:=Lib.hid hj
  clear hj
  have H:=Lib.hid h
  clear h
  go_enter Tryz.func59,Tryz.ntmps59
  go_wp2_with (first
    | (go_at_call 77;refine(turn_r S A n k ((68,q)::r2) 73 _ p _ _ (H.out.next (by go_grown)) (by simp;omega)).mono ?_
       rintro e w1 ⟨S1,A1,n1,k1,rfl,hx1,hb1⟩
       have Hx1:=Lib.hid hx1
       clear hx1
       have hz1:=hb1.size
       have hz1:w.heap.size+1<w1.heap.size:=by simp at hz1;omega
       have q1:Below w.heap.size w w1:=below_next (by go_grown) hb1
       have kk1:=Bk.below (cs:=#[.string ⟨#[]⟩,.slice none 0 0,.bool false]) (by first|exact bk_second w _ _ _ _|exact(bk_second w _ _ _ _).drew:Bk _ (w.heap.size+1) 95 _) hb1 (by simp)
       obtain⟨y0,y1,y2,z0,z1,z2⟩:=kk1.three
       have Hb1:=Lib.hid hb1
       clear hb1
       have bb1:=Bk.below (cs:=#[.string ⟨S.toArray⟩,.slice A n k,.bool f]) (by exact bk_first w _ _ _ _:Bk _ w.heap.size 95 _) Hb1.out (by simp;omega)
       obtain⟨v0,v1,v2,g0,g1,g2⟩:=bb1.three))
  all_goals first
  | (refine fin3 kk2 fun F hF hgF x0 x1 x2=>?_
     refine bodyPost_ret (by simp[results,Tryz.results59,go_sem,x0,x1,x2];try rfl) rfl ?_
     refine ro_fin (by omega) Hx2.out q2 kk2 hF hgF ?_ ?_)
  | (refine fin3 kk1 fun F hF hgF x0 x1 x2=>?_
     refine bodyPost_ret (by simp[results,Tryz.results59,go_sem,x0,x1,x2];try rfl) rfl ?_
     refine ro_fin (by omega) Hx1.out q1 kk1 hF hgF ?_ ?_)
  | (go_returns
     refine ro_same H.out (by go_grown) ?_ ?_)
  all_goals go_light
  all_goals try simp only[beq_iff_eq,beq_eq_false_iff_ne,ne_eq] at *
  all_goals unfold rStep
  all_goals try dsimp only
  all_goals (repeat (first|rw[if_pos (by first|decide|omega|(simp;done)|(simp;omega))]|rw[if_neg (by first|decide|omega|(simp;done)|(simp;omega))]))
  all_goals first|rfl|(simp;done)|(rw[Bool.eq_iff_iff];simp;omega)|(have e:=Hst.out;generalize st.tail=r at *;subst e;rfl)
set_option maxHeartbeats 2000000 in
theorem st_76_123b (S:List UInt8) (A:Option Addr) (n k:Nat) (f:Bool) (at_ p:Int) (w:World) (r2:Stk) (q:Int) (hl:r2.length≤997) (h:Rs w S A n k ((76,p)::(73,q)::r2)) :
    Calls Tryz.prog 59 #[.agg #[.string ⟨S.toArray⟩,.slice A n k,.bool f],.int .u8 ((123:UInt8).toNat:Int),.int .i64 at_] w (Ro w (rStep ((76,p)::(73,q)::r2) f 123 at_).1 (rStep ((76,p)::(73,q)::r2) f 123 at_).2):=by
  obtain⟨j,hj⟩:∃j,r2.length=j:=⟨_,rfl⟩
  obtain⟨hS,hlt,hg⟩:=rs_top (m:=j+1) h (by simp[hj])
  obtain⟨hlt0,hg0⟩:=rs_snd h hj
  have hi:((j:Int)+1)<(j:Int)+1+1:=by omega
  have hmb:j≤998:=by omega
  have HJ:=Lib.hid hj
  clear hj
  have H:=Lib.hid h
  clear h
  go_enter Tryz.func59,Tryz.ntmps59
  go_wp2_with (first
    | (go_at_call 77;refine(turn_r S A n k ((73,q)::r2) 73 _ p _ _ (H.out.next (by go_grown)) (by simp;omega)).mono ?_
       rintro e w1 ⟨S1,A1,n1,k1,rfl,hx1,hb1⟩
       have Hx1:=Lib.hid hx1
       clear hx1
       have hz1:=hb1.size
       have hz1:w.heap.size+1<w1.heap.size:=by simp at hz1;omega
       have q1:Below w.heap.size w w1:=below_next (by go_grown) hb1
       have kk1:=Bk.below (cs:=#[.string ⟨#[]⟩,.slice none 0 0,.bool false]) (by first|exact bk_second w _ _ _ _|exact(bk_second w _ _ _ _).drew:Bk _ (w.heap.size+1) 95 _) hb1 (by simp)
       obtain⟨y0,y1,y2,z0,z1,z2⟩:=kk1.three
       have Hb1:=Lib.hid hb1
       clear hb1
       have bb1:=Bk.below (cs:=#[.string ⟨S.toArray⟩,.slice A n k,.bool f]) (by exact bk_first w _ _ _ _:Bk _ w.heap.size 95 _) Hb1.out (by simp;omega)
       obtain⟨v0,v1,v2,g0,g1,g2⟩:=bb1.three))
  all_goals first
  | (refine fin3 kk2 fun F hF hgF x0 x1 x2=>?_
     refine bodyPost_ret (by simp[results,Tryz.results59,go_sem,x0,x1,x2];try rfl) rfl ?_
     refine ro_fin (by omega) Hx2.out q2 kk2 hF hgF ?_ ?_)
  | (refine fin3 kk1 fun F hF hgF x0 x1 x2=>?_
     refine bodyPost_ret (by simp[results,Tryz.results59,go_sem,x0,x1,x2];try rfl) rfl ?_
     refine ro_fin (by omega) Hx1.out q1 kk1 hF hgF ?_ ?_)
  | (go_returns
     refine ro_same H.out (by go_grown) ?_ ?_)
  all_goals go_light
  all_goals try simp only[beq_iff_eq,beq_eq_false_iff_ne,ne_eq] at *
  all_goals unfold rStep
  all_goals try dsimp only
  all_goals (repeat (first|rw[if_pos (by first|decide|omega|(simp;done)|(simp;omega))]|rw[if_neg (by first|decide|omega|(simp;done)|(simp;omega))]))
  all_goals first|rfl|(simp;done)|(rw[Bool.eq_iff_iff];simp;omega)|(have e:=Hst.out;generalize st.tail=r at *;subst e;rfl)
set_option maxHeartbeats 2000000 in
theorem st_76_123c (S:List UInt8) (A:Option Addr) (n k:Nat) (f:Bool) (at_ p:Int) (w:World) (r2:Stk) (q:Int) (hl:r2.length≤997) (d:UInt8) (hd68:((d.toNat:Int)==68)=false) (hd73:((d.toNat:Int)==73)=false) (h:Rs w S A n k ((76,p)::(d,q)::r2)) :
    Calls Tryz.prog 59 #[.agg #[.string ⟨S.toArray⟩,.slice A n k,.bool f],.int .u8 ((123:UInt8).toNat:Int),.int .i64 at_] w (Ro w (rStep ((76,p)::(d,q)::r2) f 123 at_).1 (rStep ((76,p)::(d,q)::r2) f 123 at_).2):=by
  obtain⟨j,hj⟩:∃j,r2.length=j:=⟨_,rfl⟩
  obtain⟨hS,hlt,hg⟩:=rs_top (m:=j+1) h (by simp[hj])
  obtain⟨hlt0,hg0⟩:=rs_snd h hj
  have hi:((j:Int)+1)<(j:Int)+1+1:=by omega
  have hmb:j≤998:=by omega
  have HJ:=Lib.hid hj
  clear hj
  have H:=Lib.hid h
  clear h
  go_enter Tryz.func59,Tryz.ntmps59
  go_wp2_with (first
    | (go_at_call 77;refine(turn_r S A n k ((d,q)::r2) 86 _ p _ _ (H.out.next (by go_grown)) (by simp;omega)).mono ?_
       rintro e w1 ⟨S1,A1,n1,k1,rfl,hx1,hb1⟩
       have Hx1:=Lib.hid hx1
       clear hx1
       have hz1:=hb1.size
       have hz1:w.heap.size+1<w1.heap.size:=by simp at hz1;omega
       have q1:Below w.heap.size w w1:=below_next (by go_grown) hb1
       have kk1:=Bk.below (cs:=#[.string ⟨#[]⟩,.slice none 0 0,.bool false]) (by first|exact bk_second w _ _ _ _|exact(bk_second w _ _ _ _).drew:Bk _ (w.heap.size+1) 95 _) hb1 (by simp)
       obtain⟨y0,y1,y2,z0,z1,z2⟩:=kk1.three
       have Hb1:=Lib.hid hb1
       clear hb1
       have bb1:=Bk.below (cs:=#[.string ⟨S.toArray⟩,.slice A n k,.bool f]) (by exact bk_first w _ _ _ _:Bk _ w.heap.size 95 _) Hb1.out (by simp;omega)
       obtain⟨v0,v1,v2,g0,g1,g2⟩:=bb1.three))
  all_goals first
  | (refine fin3 kk2 fun F hF hgF x0 x1 x2=>?_
     refine bodyPost_ret (by simp[results,Tryz.results59,go_sem,x0,x1,x2];try rfl) rfl ?_
     refine ro_fin (by omega) Hx2.out q2 kk2 hF hgF ?_ ?_)
  | (refine fin3 kk1 fun F hF hgF x0 x1 x2=>?_
     refine bodyPost_ret (by simp[results,Tryz.results59,go_sem,x0,x1,x2];try rfl) rfl ?_
     refine ro_fin (by omega) Hx1.out q1 kk1 hF hgF ?_ ?_)
  | (go_returns
     refine ro_same H.out (by go_grown) ?_ ?_)
  all_goals go_light
  all_goals try simp only[beq_iff_eq,beq_eq_false_iff_ne,ne_eq] at *
  all_goals unfold rStep
  all_goals try dsimp only
  all_goals (repeat (first|rw[if_pos (by first|decide|omega|(simp;done)|(simp;omega))]|rw[if_neg (by first|decide|omega|(simp;done)|(simp;omega))]))
  all_goals first|rfl|(simp;done)|(rw[Bool.eq_iff_iff];simp;omega)|(have e:=Hst.out;generalize st.tail=r at *;subst e;rfl)
set_option maxHeartbeats 2000000 in
theorem st_76_x (S:List UInt8) (A:Option Addr) (n k:Nat) (f:Bool) (at_ p:Int) (w:World) (r2:Stk) (q:Int) (hl:r2.length≤997) (d b:UInt8) (hb40:((b.toNat:Int)==40)=false) (hb123:((b.toNat:Int)==123)=false) (hb36:((b.toNat:Int)==36)=false) (h:Rs w S A n k ((76,p)::(d,q)::r2)) :
    Calls Tryz.prog 59 #[.agg #[.string ⟨S.toArray⟩,.slice A n k,.bool f],.int .u8 ((b:UInt8).toNat:Int),.int .i64 at_] w (Ro w (rStep ((76,p)::(d,q)::r2) f b at_).1 (rStep ((76,p)::(d,q)::r2) f b at_).2):=by
  obtain⟨j,hj⟩:∃j,r2.length=j:=⟨_,rfl⟩
  obtain⟨hS,hlt,hg⟩:=rs_top (m:=j+1) h (by simp[hj])
  obtain⟨hlt0,hg0⟩:=rs_snd h hj
  have hi:((j:Int)+1)<(j:Int)+1+1:=by omega
  have hmb:j≤998:=by omega
  have HJ:=Lib.hid hj
  clear hj
  have H:=Lib.hid h
  clear h
  go_enter Tryz.func59,Tryz.ntmps59
  go_wp2_with (first
    | (go_at_call 78;refine(pop_r S A n k _ _ _ (H.out.next (by go_grown)) (by simp) (by simp;omega)).mono ?_
       rintro e w1 ⟨S1,A1,n1,k1,rfl,hx1,hb1⟩
       have Hx1:=Lib.hid hx1
       clear hx1
       have hz1:=hb1.size
       have hz1:w.heap.size+1<w1.heap.size:=by simp at hz1;omega
       have q1:Below w.heap.size w w1:=below_next (by go_grown) hb1
       have kk1:=Bk.below (cs:=#[.string ⟨#[]⟩,.slice none 0 0,.bool false]) (by first|exact bk_second w _ _ _ _|exact(bk_second w _ _ _ _).drew:Bk _ (w.heap.size+1) 95 _) hb1 (by simp)
       obtain⟨y0,y1,y2,z0,z1,z2⟩:=kk1.three
       have Hb1:=Lib.hid hb1
       clear hb1
       have bb1:=Bk.below (cs:=#[.string ⟨S.toArray⟩,.slice A n k,.bool f]) (by exact bk_first w _ _ _ _:Bk _ w.heap.size 95 _) Hb1.out (by simp;omega)
       obtain⟨v0,v1,v2,g0,g1,g2⟩:=bb1.three
       obtain⟨hS1,hlt1,hg1⟩:=rs_top Hx1.out HJ.out)
    | (go_at_call 79;refine call3 bb1 fun F hF hgF=>?_
       refine(plain_r S1 A1 n1 k1 _ _ d b at_ _ ⟨Hx1.out.1,Hx1.out.2.1,Hx1.out.2.2.keep hgF (bb1.row (by decide))⟩ (d,q) rfl (by simp;omega)).mono ?_
       rintro e w2 ⟨S2,A2,n2,k2,rfl,hx2,hb2⟩
       have Hx2:=Lib.hid hx2
       clear hx2
       have q2:Below w.heap.size w w2:=(q1.grown hgF q1.size (by intro j hj;injection hj with hj;omega)).trans (hb2.mono (Nat.le_trans q1.size hgF.size))
       have kk2:=(kk1.grown hgF (by simp)).below hb2 (Nat.lt_of_lt_of_le kk1.lt hgF.size)
       obtain⟨y0,y1,y2,z0,z1,z2⟩:=kk2.three))
  all_goals first
  | (refine fin3 kk2 fun F hF hgF x0 x1 x2=>?_
     refine bodyPost_ret (by simp[results,Tryz.results59,go_sem,x0,x1,x2];try rfl) rfl ?_
     refine ro_fin (by omega) Hx2.out q2 kk2 hF hgF ?_ ?_)
  | (refine fin3 kk1 fun F hF hgF x0 x1 x2=>?_
     refine bodyPost_ret (by simp[results,Tryz.results59,go_sem,x0,x1,x2];try rfl) rfl ?_
     refine ro_fin (by omega) Hx1.out q1 kk1 hF hgF ?_ ?_)
  | (go_returns
     refine ro_same H.out (by go_grown) ?_ ?_)
  all_goals go_light
  all_goals try simp only[beq_iff_eq,beq_eq_false_iff_ne,ne_eq] at *
  all_goals unfold rStep
  all_goals try dsimp only
  all_goals (repeat (first|rw[if_pos (by first|decide|omega|(simp;done)|(simp;omega))]|rw[if_neg (by first|decide|omega|(simp;done)|(simp;omega))]))
  all_goals first|rfl|(simp;done)|(rw[Bool.eq_iff_iff];simp;omega)|(have e:=Hst.out;generalize st.tail=r at *;subst e;rfl)
set_option maxHeartbeats 2000000 in
theorem st_79_x (S:List UInt8) (A:Option Addr) (n k:Nat) (f:Bool) (at_ p:Int) (w:World) (r:Stk) (hl:r.length≤998) (b:UInt8) (hb40:((b.toNat:Int)==40)=false) (h:Rs w S A n k ((79,p)::r)) :
    Calls Tryz.prog 59 #[.agg #[.string ⟨S.toArray⟩,.slice A n k,.bool f],.int .u8 ((b:UInt8).toNat:Int),.int .i64 at_] w (Ro w (rStep ((79,p)::r) f b at_).1 (rStep ((79,p)::r) f b at_).2):=by
  obtain⟨m,hm⟩:∃m,r.length=m:=⟨_,rfl⟩
  obtain⟨hS,hlt,hg⟩:=rs_top h hm
  have hi:(m:Int)<(m:Int)+1:=by omega
  have hmb:m≤998:=by omega
  have HM:=Lib.hid hm
  clear hm
  have H:=Lib.hid h
  clear h
  go_enter Tryz.func59,Tryz.ntmps59
  go_wp2_with (first
    | (go_at_call 77;refine(turn_r S A n k r 67 _ p _ _ (H.out.next (by go_grown)) (by omega)).mono ?_
       rintro e w1 ⟨S1,A1,n1,k1,rfl,hx1,hb1⟩
       have Hx1:=Lib.hid hx1
       clear hx1
       have hz1:=hb1.size
       have hz1:w.heap.size+1<w1.heap.size:=by simp at hz1;omega
       have q1:Below w.heap.size w w1:=below_next (by go_grown) hb1
       have kk1:=Bk.below (cs:=#[.string ⟨#[]⟩,.slice none 0 0,.bool false]) (by first|exact bk_second w _ _ _ _|exact(bk_second w _ _ _ _).drew:Bk _ (w.heap.size+1) 95 _) hb1 (by simp)
       obtain⟨y0,y1,y2,z0,z1,z2⟩:=kk1.three
       have Hb1:=Lib.hid hb1
       clear hb1
       have bb1:=Bk.below (cs:=#[.string ⟨S.toArray⟩,.slice A n k,.bool f]) (by exact bk_first w _ _ _ _:Bk _ w.heap.size 95 _) Hb1.out (by simp;omega)
       obtain⟨v0,v1,v2,g0,g1,g2⟩:=bb1.three)
    | (go_at_call 79;refine call3 bb1 fun F hF hgF=>?_
       refine(plain_r S1 A1 n1 k1 _ _ 67 b at_ _ ⟨Hx1.out.1,Hx1.out.2.1,Hx1.out.2.2.keep hgF (bb1.row (by decide))⟩ (67,p) rfl (by simp;omega)).mono ?_
       rintro e w2 ⟨S2,A2,n2,k2,rfl,hx2,hb2⟩
       have Hx2:=Lib.hid hx2
       clear hx2
       have q2:Below w.heap.size w w2:=(q1.grown hgF q1.size (by intro j hj;injection hj with hj;omega)).trans (hb2.mono (Nat.le_trans q1.size hgF.size))
       have kk2:=(kk1.grown hgF (by simp)).below hb2 (Nat.lt_of_lt_of_le kk1.lt hgF.size)
       obtain⟨y0,y1,y2,z0,z1,z2⟩:=kk2.three))
  all_goals first
  | (refine fin3 kk2 fun F hF hgF x0 x1 x2=>?_
     refine bodyPost_ret (by simp[results,Tryz.results59,go_sem,x0,x1,x2];try rfl) rfl ?_
     refine ro_fin (by omega) Hx2.out q2 kk2 hF hgF ?_ ?_)
  | (refine fin3 kk1 fun F hF hgF x0 x1 x2=>?_
     refine bodyPost_ret (by simp[results,Tryz.results59,go_sem,x0,x1,x2];try rfl) rfl ?_
     refine ro_fin (by omega) Hx1.out q1 kk1 hF hgF ?_ ?_)
  | (go_returns
     refine ro_same H.out (by go_grown) ?_ ?_)
  all_goals go_light
  all_goals try simp only[beq_iff_eq,beq_eq_false_iff_ne,ne_eq] at *
  all_goals unfold rStep
  all_goals try dsimp only
  all_goals (repeat (first|rw[if_pos (by first|decide|omega|(simp;done)|(simp;omega))]|rw[if_neg (by first|decide|omega|(simp;done)|(simp;omega))]))
  all_goals first|rfl|(simp;done)|(rw[Bool.eq_iff_iff];simp;omega)|(have e:=Hst.out;generalize st.tail=r at *;subst e;rfl)
set_option maxHeartbeats 2000000 in
theorem st_69_x (S:List UInt8) (A:Option Addr) (n k:Nat) (f:Bool) (at_ p:Int) (w:World) (r:Stk) (hl:r.length≤998) (b:UInt8) (hb41:((b.toNat:Int)==41)=false) (h:Rs w S A n k ((69,p)::r)) :
    Calls Tryz.prog 59 #[.agg #[.string ⟨S.toArray⟩,.slice A n k,.bool f],.int .u8 ((b:UInt8).toNat:Int),.int .i64 at_] w (Ro w (rStep ((69,p)::r) f b at_).1 (rStep ((69,p)::r) f b at_).2):=by
  obtain⟨m,hm⟩:∃m,r.length=m:=⟨_,rfl⟩
  obtain⟨hS,hlt,hg⟩:=rs_top h hm
  have hi:(m:Int)<(m:Int)+1:=by omega
  have hmb:m≤998:=by omega
  have HM:=Lib.hid hm
  clear hm
  have H:=Lib.hid h
  clear h
  go_enter Tryz.func59,Tryz.ntmps59
  go_wp2_with (first
    | (go_at_call 77;refine(turn_r S A n k r 65 _ p _ _ (H.out.next (by go_grown)) (by omega)).mono ?_
       rintro e w1 ⟨S1,A1,n1,k1,rfl,hx1,hb1⟩
       have Hx1:=Lib.hid hx1
       clear hx1
       have hz1:=hb1.size
       have hz1:w.heap.size+1<w1.heap.size:=by simp at hz1;omega
       have q1:Below w.heap.size w w1:=below_next (by go_grown) hb1
       have kk1:=Bk.below (cs:=#[.string ⟨#[]⟩,.slice none 0 0,.bool false]) (by first|exact bk_second w _ _ _ _|exact(bk_second w _ _ _ _).drew:Bk _ (w.heap.size+1) 95 _) hb1 (by simp)
       obtain⟨y0,y1,y2,z0,z1,z2⟩:=kk1.three
       have Hb1:=Lib.hid hb1
       clear hb1
       have bb1:=Bk.below (cs:=#[.string ⟨S.toArray⟩,.slice A n k,.bool f]) (by exact bk_first w _ _ _ _:Bk _ w.heap.size 95 _) Hb1.out (by simp;omega)
       obtain⟨v0,v1,v2,g0,g1,g2⟩:=bb1.three)
    | (go_at_call 79;refine call3 bb1 fun F hF hgF=>?_
       refine(plain_r S1 A1 n1 k1 _ _ 65 b at_ _ ⟨Hx1.out.1,Hx1.out.2.1,Hx1.out.2.2.keep hgF (bb1.row (by decide))⟩ (65,p) rfl (by simp;omega)).mono ?_
       rintro e w2 ⟨S2,A2,n2,k2,rfl,hx2,hb2⟩
       have Hx2:=Lib.hid hx2
       clear hx2
       have q2:Below w.heap.size w w2:=(q1.grown hgF q1.size (by intro j hj;injection hj with hj;omega)).trans (hb2.mono (Nat.le_trans q1.size hgF.size))
       have kk2:=(kk1.grown hgF (by simp)).below hb2 (Nat.lt_of_lt_of_le kk1.lt hgF.size)
       obtain⟨y0,y1,y2,z0,z1,z2⟩:=kk2.three))
  all_goals first
  | (refine fin3 kk2 fun F hF hgF x0 x1 x2=>?_
     refine bodyPost_ret (by simp[results,Tryz.results59,go_sem,x0,x1,x2];try rfl) rfl ?_
     refine ro_fin (by omega) Hx2.out q2 kk2 hF hgF ?_ ?_)
  | (refine fin3 kk1 fun F hF hgF x0 x1 x2=>?_
     refine bodyPost_ret (by simp[results,Tryz.results59,go_sem,x0,x1,x2];try rfl) rfl ?_
     refine ro_fin (by omega) Hx1.out q1 kk1 hF hgF ?_ ?_)
  | (go_returns
     refine ro_same H.out (by go_grown) ?_ ?_)
  all_goals go_light
  all_goals try simp only[beq_iff_eq,beq_eq_false_iff_ne,ne_eq] at *
  all_goals unfold rStep
  all_goals try dsimp only
  all_goals (repeat (first|rw[if_pos (by first|decide|omega|(simp;done)|(simp;omega))]|rw[if_neg (by first|decide|omega|(simp;done)|(simp;omega))]))
  all_goals first|rfl|(simp;done)|(rw[Bool.eq_iff_iff];simp;omega)|(have e:=Hst.out;generalize st.tail=r at *;subst e;rfl)
end Go.Proofs.YtnclfgkpcpcapaaGreatDoor
namespace Go.Proofs.YtnclfgkpcpcapaaGreatDoor
open Go.RowKit
set_option linter.unusedVariables false
set_option linter.unusedSimpArgs false
set_option maxRecDepth 100000
theorem step_r (S:List UInt8) (A:Option Addr) (n k:Nat) (st:Stk) (f:Bool) (b:UInt8) (at_:Int) (w:World) (h:Rs w S A n k st) (hbot:Bot st) (hl:st.length≤990) :
    Calls Tryz.prog 59 #[.agg #[.string ⟨S.toArray⟩,.slice A n k,.bool f],.int .u8 (b.toNat:Int),.int .i64 at_] w (Ro w (rStep st f b at_).1 (rStep st f b at_).2):=by
  match st,hbot with
  | (c,p)::r,hbot=>
    simp only[List.length_cons] at hl
    rcases Decidable.em (c=76) with rfl|h76
    ·match r,hbot with
     | [],hbot=>exact absurd hbot.single (by decide)
     | (d,q)::r2,_=>
       simp only[List.length_cons] at hl
       rcases Decidable.em (b=40) with rfl|hb40
       ·exact st_76_40 S A n k f at_ p w _ (by simp;omega) h
       rcases Decidable.em (b=36) with rfl|hb36
       ·exact st_76_36 S A n k f at_ p w _ (by simp;omega) h
       rcases Decidable.em (b=123) with rfl|hb123
       ·rcases Decidable.em (d=68) with rfl|hd68
        ·exact st_76_123a S A n k f at_ p w r2 q (by omega) h
        rcases Decidable.em (d=73) with rfl|hd73
        ·exact st_76_123b S A n k f at_ p w r2 q (by omega) h
        exact st_76_123c S A n k f at_ p w r2 q (by omega) d (bf d 68 hd68) (bf d 73 hd73) h
       exact st_76_x S A n k f at_ p w r2 q (by omega) d b (bf b 40 hb40) (bf b 123 hb123) (bf b 36 hb36) h
    rcases Decidable.em (c=79) with rfl|h79
    ·rcases Decidable.em (b=40) with rfl|hb40
     ·exact st_79_40 S A n k f at_ p w r (by omega) h
     exact st_79_x S A n k f at_ p w r (by omega) b (bf b 40 hb40) h
    rcases Decidable.em (c=69) with rfl|h69
    ·rcases Decidable.em (b=41) with rfl|hb41
     ·exact st_69_41 S A n k f at_ p w r (by omega) h
     exact st_69_x S A n k f at_ p w r (by omega) b (bf b 41 hb41) h
    exact st_e S A n k f at_ p w r (by omega) c b (bf c 76 h76) (bf c 79 h79) (bf c 69 h69) h
theorem rt_new (w:World) (cs:List Value) (t:TypeId) (sz m:Nat) (hl:cs.length=m*sz) (hm:m≤1000):Rt (w.alloc (.cells cs.toArray t)) t sz (.slice (some ⟨w.heap.size,0,none⟩) m m) m cs:=by
  refine⟨hl,_,_,rfl,Nat.le_refl _,by unfold maxLen;omega,by simp,fun _=>⟨w.heap.size,0,cs.toArray,(0,0),rfl,Bk.new w t cs.toArray,fun j u hj=>?_⟩⟩
  rw[Nat.zero_add,Bk.cell (Bk.new w t cs.toArray)]
  simpa using hj
theorem first_r (w:World):Calls Tryz.prog 57 #[] w (Ro w [(84,0)] true):=by
  go_enter Tryz.func57,Tryz.ntmps57
  go_wp2
  go_returns
  refine⟨[84],_,1,1,rfl,⟨rfl,rfl,?_⟩,by go_grown⟩
  have:=rt_new (w.alloc (.cells #[Value.string {data:=#[84]},Value.slice (some {block:=w.heap.size+1,off:=0}) 1 1,Value.bool true] 95)) [.int .i64 0] 3 1 1 rfl (by omega)
  simpa [rP] using this
theorem set3 {w:World} {c:Nat} {t:TypeId} {u0 u1 u2 v0 v1 v2:Value} (hb:Bk w c t #[u0,u1,u2]) :
    Bk (((w.setCell ⟨c,0,none⟩ v0).setCell ⟨c,1,none⟩ v1).setCell ⟨c,2,none⟩ v2) c t #[v0,v1,v2]∧w.grownBy (((w.setCell ⟨c,0,none⟩ v0).setCell ⟨c,1,none⟩ v1).setCell ⟨c,2,none⟩ v2) (some c):=
  ⟨by simpa using ((hb.set 0 v0).set 1 v1).set 2 v2,grown_set (grown_set (grown_set (grown_refl _ _) _ _) _ _) _ _⟩
def RunRel (w wr:World) (bx:Nat) (l:List UInt8) (k:Nat):Prop:=
  ∃S A n c,Bk wr bx 95 #[.string ⟨S.toArray⟩,.slice A n c,.bool (rAt l k).2]∧Rs wr S A n c (rAt l k).1∧Below w.heap.size w wr ∧
   Bk wr w.heap.size 95 #[.string ⟨#[]⟩,.slice none 0 0,.bool false]
theorem runRel_next {w wr w2:World} {bx:Nat} {l:List UInt8} {k:Nat} {cs:Value×Value×Value} {S2:List UInt8} {A2:Option Addr} {n2 c2:Nat} (hlt:k<l.length) (kk:Bk w2 bx 95 #[cs.1,cs.2.1,cs.2.2])
    (hx:Rs w2 S2 A2 n2 c2 (rStep (rAt l k).1 (rAt l k).2 ((ByteArray.mk l.toArray)[k]'hlt) k).1) (hbel:Below w.heap.size w wr) (hb2:Below wr.heap.size wr w2)
    (hres:Bk wr w.heap.size 95 #[.string ⟨#[]⟩,.slice none 0 0,.bool false]) (hne:w.heap.size<bx) :
    RunRel w (((w2.setCell ⟨bx,0,none⟩ (.string ⟨S2.toArray⟩)).setCell ⟨bx,1,none⟩ (.slice A2 n2 c2)).setCell ⟨bx,2,none⟩ (.bool (rStep (rAt l k).1 (rAt l k).2 ((ByteArray.mk l.toArray)[k]'hlt) k).2)) bx l (k+1):=by
  have e:rAt l (k+1)=rStep (rAt l k).1 (rAt l k).2 ((ByteArray.mk l.toArray)[k]'hlt) k:=by
    show rStep _ _ (l.getD k 0) _=_
    rw[ba_get,List.getD_eq_getElem?_getD,List.getElem?_eq_getElem hlt]
    rfl
  obtain⟨hF,hgF⟩:=set3 kk (v0:=.string ⟨S2.toArray⟩) (v1:=.slice A2 n2 c2) (v2:=.bool (rStep (rAt l k).1 (rAt l k).2 ((ByteArray.mk l.toArray)[k]'hlt) k).2)
  rw[←e] at hx hF hgF ⊢
  have hb:=hbel.trans (hb2.mono hbel.size)
  exact⟨S2,A2,n2,c2,hF,⟨hx.1,hx.2.1,hx.2.2.keep hgF (kk.row (by decide))⟩,hb.grown hgF hb.size (by intro j hj;injection hj with hj;omega),
    (hres.below hb2 hres.lt).grown hgF (by simp;omega)⟩
theorem run_r (l:List UInt8) (w:World) (hl:l.length≤900):Calls Tryz.prog 61 #[.string ⟨l.toArray⟩] w (Ro w (rAt l l.length).1 (rAt l l.length).2):=by
  go_enter Tryz.func61,Tryz.ntmps61
  go_wp2_with (go_at_call 57;refine(first_r _).mono ?_
               rintro e w1 ⟨S1,A1,n1,k1,rfl,hx1,hb1⟩)
  have H1:=Lib.hid (And.intro hx1 hb1)
  have hw1:w.heap.size+1≤w1.heap.size:=by have:=hb1.size;simpa using this
  clear hx1 hb1
  generalize hbx:w1.heap.size=bx at *
  have HBX:=Lib.hid hbx
  clear hbx
  go_loopw [4] (fun i wr=>∃k:Nat,k≤l.length∧i=.int .i64 k∧RunRel w wr bx l k) (fun i _=>l.length-(intOf i).toNat)
  case atStart=>
    obtain⟨hx1,hb1⟩:=H1.out
    have e:=HBX.out
    subst e
    have hb0:Below w.heap.size w w1:=below_next (by go_grown) hb1
    refine⟨0,by omega,rfl,S1,A1,n1,k1,Bk.new _ _ _,hx1.next (by go_grown),hb0.alloc hb0.size _,?_⟩
    exact((Bk.new w 95 _).below hb1 (by simp)).alloc _
  case round=>
    obtain⟨k,hk,rfl,S,A,n,c,hbk,hrs,hbel,hres⟩:=hrel
    have hbot:=rAt_bot l k
    have hlen:=rAt_len l k
    obtain⟨y0,y1,y2,z0,z1,z2⟩:=hbk.three
    have HR:=Lib.hid (And.intro hrs (And.intro hbel (And.intro hres (And.intro hbk hbot))))
    clear hrs hbel hres hbk hbot
    by_cases hlt:k<l.length
    ·have hi0:(0:Int)≤(k:Int):=by omega
     have hi1:(k:Int)<(l.length:Int):=by omega
     go_wp2_with fail
     go_region_with (first
       | (go_at_call 59
          refine(step_r S A n c _ _ _ _ _ (HR.out.1.next (by go_grown)) HR.out.2.2.2.2 (by omega)).mono ?_
          rintro e w2 ⟨S2,A2,n2,c2,rfl,hx2,hb2⟩
          have hb2':Below wr.heap.size wr w2:=below_next (by go_grown) hb2
          have kk:=HR.out.2.2.2.1.below hb2' HR.out.2.2.2.1.lt
          obtain⟨v0,v1,v2,g0,g1,g2⟩:=kk.three
          have H2:=Lib.hid (And.intro hx2 hb2')
          clear hx2 hb2 hb2'))
     all_goals go_wp2
     all_goals go_roundw
     all_goals first
       | (simp[intOf];omega)
       | exact⟨k+1,by omega,by go_num,runRel_next (cs:=(_,_,_)) hlt kk H2.out.1 HR.out.2.1 H2.out.2 HR.out.2.2.1 (by omega)⟩
    ·obtain⟨x0,x1,x2,x3,x4,x5⟩:=HR.out.2.2.1.three
     go_wp2
     refine fin3 HR.out.2.2.1 fun F hF hgF x0 x1 x2=>?_
     refine bodyPost_ret (by simp[results,Tryz.results61,go_sem,x0,x1,x2];try rfl) rfl ?_
     have e:k=l.length:=by omega
     subst e
     exact ro_fin (Nat.le_refl _) HR.out.1 HR.out.2.1 HR.out.2.2.1 hF hgF rfl rfl
end Go.Proofs.YtnclfgkpcpcapaaGreatDoor
