/- The reference's small functions on a stack of letters (quillwortref06: First, mark, turn, pop, push, opens): each returns what its text says, and leaves what was there as it was. -/
import Derived.Test.YtnclfgkpcpcapaaGreatDoorMem
import Derived.Test.YtnclfgkpcpcapaaGreatDoorPl6
import Derived.Test.YtnclfgkpcpcapaaGreatDoorCls
namespace Go.Proofs.YtnclfgkpcpcapaaGreatDoor
open Go.RowKit
set_option linter.unusedVariables false
set_option linter.unusedSimpArgs false
set_option maxRecDepth 100000
theorem mark_c (S:List UInt8) (A:Option Addr) (n k:Nat) (f f':Bool) (w:World) :
    Calls Tryz.prog 76 #[.agg #[.string ⟨S.toArray⟩,.slice A n k,.bool f],.bool f'] w fun e w'=>e=.returned (.agg #[.string ⟨S.toArray⟩,.slice A n k,.bool f'])∧Below w.heap.size w w':=by
  go_enter Tryz.func76,Tryz.ntmps76
  go_wp2
  go_returns
  refine⟨rfl,?_⟩
  go_grown
theorem turn_c (S T:List UInt8) (A:Option Addr) (n m k:Nat) (f:Bool) (w:World) (hS:S.length=n+1) (hn:n≤100000) (hT:T.length≤2) :
    Calls Tryz.prog 77 #[.agg #[.string ⟨S.toArray⟩,.slice A m k,.bool f],.string ⟨T.toArray⟩] w fun e w'=>e=.returned (.agg #[.string ⟨(S.take n++T).toArray⟩,.slice A m k,.bool f])∧Below w.heap.size w w':=by
  go_enter Tryz.func77,Tryz.ntmps77
  go_wp2
  go_region
  all_goals go_wp2
  all_goals go_returns
  all_goals simp only[ba_extract,ba_append,List.drop_zero]
  all_goals refine⟨trivial,?_⟩
  all_goals go_grown
theorem pop_c (S:List UInt8) (A:Option Addr) (n k:Nat) (f:Bool) (w:World) (hS:S.length=n+1) (hn:n≤100000) (hk:n+1≤k) (_hk2:k≤maxLen) :
    Calls Tryz.prog 78 #[.agg #[.string ⟨S.toArray⟩,.slice A (n+1) k,.bool f]] w fun e w'=>e=.returned (.agg #[.string ⟨(S.take n).toArray⟩,.slice A n k,.bool f])∧Below w.heap.size w w':=by
  go_enter Tryz.func78,Tryz.ntmps78
  go_wp2
  go_region
  all_goals go_wp2
  all_goals go_returns
  all_goals simp only[ba_extract,List.drop_zero]
  all_goals refine⟨trivial,?_⟩
  all_goals go_grown
theorem opens_c (c:UInt8) (w:World) :
    Calls Tryz.prog 110 #[.int .u8 (c.toNat:Int)] w fun e w'=>e=.returned (.string ⟨(opensL c).toArray⟩)∧w=w':=by
  go_enter Tryz.func110,Tryz.ntmps110
  go_wp2
  all_goals go_ret
  all_goals simp only[beq_iff_eq,beq_eq_false_iff_ne,ne_eq] at *
  all_goals unfold opensL
  all_goals (repeat (first|rw[if_pos (by omega)]|rw[if_neg (by omega)]))
  all_goals first|exact⟨rfl,rfl⟩|exact⟨trivial,trivial⟩|simp
theorem opens_k (c d:UInt8) (w:World) (h:opensL c=[d]) :
    Calls Tryz.prog 110 #[.int .u8 (c.toNat:Int)] w fun e w'=>e=.returned (.string ⟨[d].toArray⟩)∧w=w':=by
  have:=opens_c c w
  rwa [h] at this
theorem Tryz.info3:(Tryz.prog.info? 3).map (fun i=>(i.zero,i.size,i.bytes))=some (some (.int .i64 0),1,8):=by kernel_rfl
theorem keep3 {W w':World} {b:Nat} {t:TypeId} {x y z:Value} (h:Below W.heap.size W w') (hb:Bk W b t #[x,y,z]) :
    Below W.heap.size W w'∧w'.cell? ⟨b,0,none⟩=some x∧w'.cell? ⟨b,1,none⟩=some y∧w'.cell? ⟨b,2,none⟩=some z:=by
  have h1:=hb.below h hb.lt
  exact⟨h,by rw[h1.cell];rfl,by rw[h1.cell];rfl,by rw[h1.cell];rfl⟩
set_option maxHeartbeats 1000000 in
theorem push_c (S T:List UInt8) (A:Option Addr) (n k:Nat) (ps:List Int) (at_:Int) (f:Bool) (w:World) (hS:S.length≤100000) (hn:n≤100000) (hT:T.length≤2)
    (hP:Rt w 3 1 (.slice A n k) n (ps.map (.int .i64))) :
    Calls Tryz.prog 109 #[.agg #[.string ⟨S.toArray⟩,.slice A n k,.bool f],.string ⟨T.toArray⟩,.int .i64 at_] w fun e w'=>
      ∃A' k',e=.returned (.agg #[.string ⟨(S++T).toArray⟩,.slice A' (n+1) k',.bool f])∧Rt w' 3 1 (.slice A' (n+1) k') (n+1) ((ps++[at_]).map (.int .i64))∧Below w.heap.size w w':=by
  obtain⟨i0,hi,hz0,hz1,hz2⟩:=info_parts Tryz.info3
  have hcat:¬(9223372036854775807<S.length+T.length):=by omega
  go_enter Tryz.func109,Tryz.ntmps109
  go_wp2
  refine gen2 fun W hb3 hb1 hb2 hsz=>?_
  have hP1:=hP.rd.next hb3
  have hcb:¬w.heap.size+1=w.heap.size:=by omega
  have hbc:¬w.heap.size=w.heap.size+1:=by omega
  have hbc':w.heap.size≤w.heap.size+1:=by omega
  generalize w.heap.size+1=c at *
  generalize hbe:w.heap.size=b at *
  have hb1l:=hb1.lt
  have hb2l:=hb2.lt
  have c0:=hb2.cell 0
  have c1:=hb2.cell 1
  have c2:=hb2.cell 2
  have f0:=hb2.frozen 0
  have f1:=hb2.frozen 1
  have f2:=hb2.frozen 2
  simp only[List.getElem?_toArray,List.getElem?_cons_zero,List.getElem?_cons_succ] at c0 c1 c2
  have Hb1:=Lib.hid hb1
  have HP1:=Lib.hid hP1
  have HBE:=Lib.hid hbe
  clear hb1 hP1 hP hbe hsz
  go_region_held3 (fun w'=>w'.cell? ⟨b,0,none⟩=some (.string ⟨S.toArray⟩)∧w'.cell? ⟨b,1,none⟩=some (.slice A n k)∧w'.cell? ⟨b,2,none⟩=some (.bool f))
    (first
      | ((refine(keep3 ?_ Hb1.out).2);go_grown;done)
      | exact(keep3 hbw2 Hb1.out).2
      | exact(keep3 hbw1 Hb1.out).2
      | go_keep)
   (first
    | (refine step_append_rd rfl (.tmp 11) (.tmp 13) 93 rfl W.heap.size 3 i0 _ 1 8 Tryz.underlying93 hi hz0 hz1 hz2 rfl (by decide) (.slice (some ⟨W.heap.size,0,none⟩) 0 0) 0 [] (by rfl) (World.ownsRow_made _ _ _ (by simp) (by unfold maxLen;omega) (by simp)) (.slice A n k) n W.heap.size (ps.map (.int .i64)) (by rfl) (HP1.out.keep (by go_grown) (Nat.le_refl _)) (one_ints _) (by unfold maxLen;omega) (by omega) (by first|omega|(simp;done)|(simp;omega)) ?_
       intro v1 w1 hown1 hg1 hv1
       have hbw1:Below W.heap.size W w1:=Below.grown (by go_grown) hg1 (by first|omega|(simp;done)|(simp;omega)) (by intro k hk;simp[Value.ownBlock] at hk;omega)
       have hs1:=hbw1.size)
    | (refine step_append_rd rfl (.tmp 11) (.tmp 13) 93 rfl W.heap.size 3 i0 _ 1 8 Tryz.underlying93 hi hz0 hz1 hz2 rfl (by decide) (.slice (some ⟨W.heap.size,0,none⟩) 0 0) 0 [] (by rfl) ((World.ownsRow_made _ _ _ (by simp) (by unfold maxLen;omega) (by simp)).alloc _) (.slice A n k) n W.heap.size (ps.map (.int .i64)) (by rfl) (HP1.out.keep (by go_grown) (Nat.le_refl _)) (one_ints _) (by unfold maxLen;omega) (by omega) (by first|omega|(simp;done)|(simp;omega)) ?_
       intro v1 w1 hown1 hg1 hv1
       have hbw1:Below W.heap.size W w1:=Below.grown (by go_grown) hg1 (by first|omega|(simp;done)|(simp;omega)) (by intro k hk;simp[Value.ownBlock] at hk;omega)
       have hs1:=hbw1.size)
    | (refine step_append_rd rfl (.tmp 11) (.tmp 13) 93 rfl W.heap.size 3 i0 _ 1 8 Tryz.underlying93 hi hz0 hz1 hz2 rfl (by decide) (.slice (some ⟨W.heap.size+1,0,none⟩) 0 0) 0 [] (by rfl) (own_drew (by have:=World.ownsRow_made (base:=W.heap.size) (size:=1) (e:=3) (W.alloc (.cells #[.int .i64 at_] 3)) #[] 0 (by simp) (by unfold maxLen;omega) (by simp);simpa using this)) (.slice A n k) n W.heap.size (ps.map (.int .i64)) (by rfl) (HP1.out.keep (by go_grown) (Nat.le_refl _)) (one_ints _) (by unfold maxLen;omega) (by omega) (by first|omega|(simp;done)|(simp;omega)) ?_
       intro v1 w1 hown1 hg1 hv1
       have hbw1:Below W.heap.size W w1:=Below.grown (by go_grown) hg1 (by first|omega|(simp;done)|(simp;omega)) (by intro k hk;simp[Value.ownBlock] at hk;omega)
       have hs1:=hbw1.size)
    | (refine step_append_rd rfl (.tmp 14) (.tmp 16) 93 rfl W.heap.size 3 i0 _ 1 8 Tryz.underlying93 hi hz0 hz1 hz2 rfl (by decide) v1 (0+n) ([]++ps.map (.int .i64)) (by rfl) (hown1.alloc _) (.slice (some ⟨w1.heap.size,0,none⟩) 1 1) 1 _ [.int .i64 at_] (by rfl) (rd_new _ [.int .i64 at_] _ 1 1 rfl (by omega)) (one_ints [at_]) (by unfold maxLen;omega) (by omega) (by have:=hbw1.size;first|omega|(simp;done)|(simp;omega)) ?_
       intro v2 w2 hown2 hg2 hv2
       have hbw2:Below W.heap.size W w2:=Below.grown (by go_grown) hg2 (by have:=hbw1.size;first|omega|(simp;done)|(simp;omega)) (by intro k hk;rcases hv1 with e|e<;>rw[e] at hk<;>simp[Value.ownBlock] at hk<;>omega)
       have hs2:=hbw2.size
       have hown2':w2.ownsRow W.heap.size 3 1 v2 (n+1) ((ps++[at_]).map (.int .i64)):=by simpa using hown2
       obtain⟨g2',cap2,rfl⟩:=own_some hown2'
       have e0:=(hbw2.cell (p:=⟨c,0,none⟩) hb2l).trans c0
       have e1:=(hbw2.cell (p:=⟨c,1,none⟩) hb2l).trans c1
       have e2:=(hbw2.cell (p:=⟨c,2,none⟩) hb2l).trans c2
       have g0:=(hbw2.frozen (p:=⟨c,0,none⟩) hb2l).trans f0
       have g1:=(hbw2.frozen (p:=⟨c,1,none⟩) hb2l).trans f1
       have g2:=(hbw2.frozen (p:=⟨c,2,none⟩) hb2l).trans f2)
    | (refine step_append_rd rfl (.tmp 14) (.tmp 16) 93 rfl W.heap.size 3 i0 _ 1 8 Tryz.underlying93 hi hz0 hz1 hz2 rfl (by decide) v1 (0+n) ([]++ps.map (.int .i64)) (by rfl) hown1 (.slice (some ⟨W.heap.size+1,0,none⟩) 1 1) 1 (W.heap.size+1+1) [.int .i64 at_] (by rfl) (Rd.grown (Rd.drew (by simpa using rd_new (W.alloc (.cells #[] 3)) [.int .i64 at_] 3 1 1 rfl (by omega))) hg1 (by simp[Value.ownBlock])) (one_ints [at_]) (by unfold maxLen;omega) (by omega) (by have:=hbw1.size;first|omega|(simp;done)|(simp;omega)) ?_
       intro v2 w2 hown2 hg2 hv2
       have hbw2:Below W.heap.size W w2:=Below.grown (by go_grown) hg2 (by have:=hbw1.size;first|omega|(simp;done)|(simp;omega)) (by intro k hk;rcases hv1 with e|e<;>rw[e] at hk<;>simp[Value.ownBlock] at hk<;>omega)
       have hs2:=hbw2.size
       have hown2':w2.ownsRow W.heap.size 3 1 v2 (n+1) ((ps++[at_]).map (.int .i64)):=by simpa using hown2
       obtain⟨g2',cap2,rfl⟩:=own_some hown2'
       have e0:=(hbw2.cell (p:=⟨c,0,none⟩) hb2l).trans c0
       have e1:=(hbw2.cell (p:=⟨c,1,none⟩) hb2l).trans c1
       have e2:=(hbw2.cell (p:=⟨c,2,none⟩) hb2l).trans c2
       have g0:=(hbw2.frozen (p:=⟨c,0,none⟩) hb2l).trans f0
       have g1:=(hbw2.frozen (p:=⟨c,1,none⟩) hb2l).trans f1
       have g2:=(hbw2.frozen (p:=⟨c,2,none⟩) hb2l).trans f2)
    | (refine step_append_rd rfl (.tmp 14) (.tmp 16) 93 rfl W.heap.size 3 i0 _ 1 8 Tryz.underlying93 hi hz0 hz1 hz2 rfl (by decide) v1 (0+n) ([]++ps.map (.int .i64)) (by rfl) hown1 (.slice (some ⟨W.heap.size,0,none⟩) 1 1) 1 (W.heap.size+1) [.int .i64 at_] (by rfl) (Rd.grown (Rd.drew (Rd.alloc (rd_new W [.int .i64 at_] 3 1 1 rfl (by omega)) (by simp) _)) hg1 (by simp[Value.ownBlock])) (one_ints [at_]) (by unfold maxLen;omega) (by omega) (by have:=hbw1.size;first|omega|(simp;done)|(simp;omega)) ?_
       intro v2 w2 hown2 hg2 hv2
       have hbw2:Below W.heap.size W w2:=Below.grown (by go_grown) hg2 (by have:=hbw1.size;first|omega|(simp;done)|(simp;omega)) (by intro k hk;rcases hv1 with e|e<;>rw[e] at hk<;>simp[Value.ownBlock] at hk<;>omega)
       have hs2:=hbw2.size
       have hown2':w2.ownsRow W.heap.size 3 1 v2 (n+1) ((ps++[at_]).map (.int .i64)):=by simpa using hown2
       obtain⟨g2',cap2,rfl⟩:=own_some hown2'
       have e0:=(hbw2.cell (p:=⟨c,0,none⟩) hb2l).trans c0
       have e1:=(hbw2.cell (p:=⟨c,1,none⟩) hb2l).trans c1
       have e2:=(hbw2.cell (p:=⟨c,2,none⟩) hb2l).trans c2
       have g0:=(hbw2.frozen (p:=⟨c,0,none⟩) hb2l).trans f0
       have g1:=(hbw2.frozen (p:=⟨c,1,none⟩) hb2l).trans f1
       have g2:=(hbw2.frozen (p:=⟨c,2,none⟩) hb2l).trans f2))
  all_goals go_wp2
  all_goals refine fin3 (hb2.below hbw2 hb2l) fun F hF hgF x0 x1 x2=>?_
  all_goals refine bodyPost_ret (by simp[results,Tryz.results109,go_sem,x0,x1,x2];try rfl) rfl ?_
  all_goals (
    simp only[ba_append]
    refine⟨_,_,rfl,(Rt.of_own hown2').keep hgF ((hb2.below hbw2 hb2l).row (by decide)),?_⟩
    rw[HBE.out]
    exact(hb3.trans (hbw2.mono (Nat.le_of_lt hb1l))).grown hgF (by have:=hb3.size;omega) (by intro k hk;injection hk with hk;omega))
end Go.Proofs.YtnclfgkpcpcapaaGreatDoor
namespace Go.Proofs.YtnclfgkpcpcapaaGreatDoor
open Go.RowKit
set_option linter.unusedVariables false
set_option linter.unusedSimpArgs false
set_option maxRecDepth 100000
def Rs (w:World) (S:List UInt8) (A:Option Addr) (n k:Nat) (st:Stk):Prop:=S=rS st∧n=st.length∧Rt w 3 1 (.slice A n k) n ((rP st).map (.int .i64))
theorem Rs.next {w w':World} {S:List UInt8} {A:Option Addr} {n k:Nat} {st:Stk} (h:Rs w S A n k st) (hb:Below w.heap.size w w'):Rs w' S A n k st:=⟨h.1,h.2.1,h.2.2.next hb⟩
theorem Rs.len {w:World} {S:List UInt8} {A:Option Addr} {n k:Nat} {st:Stk} (h:Rs w S A n k st):S.length=st.length:=by rw[h.1,rS_len]
def Ro (w:World) (st:Stk) (f:Bool) (e:Ending) (w':World):Prop:=
  ∃S A n k,e=.returned (.agg #[.string ⟨S.toArray⟩,.slice A n k,.bool f])∧Rs w' S A n k st∧Below w.heap.size w w'
theorem push_r (S:List UInt8) (A:Option Addr) (n k:Nat) (st:Stk) (c:UInt8) (at_:Int) (f:Bool) (w:World) (h:Rs w S A n k st) (hl:st.length≤1000) :
    Calls Tryz.prog 109 #[.agg #[.string ⟨S.toArray⟩,.slice A n k,.bool f],.string ⟨[c].toArray⟩,.int .i64 at_] w (Ro w ((c,at_)::st) f):=by
  have hlen:=h.len
  refine(push_c S [c] A n k (rP st) at_ f w (by omega) (by have:=h.2.1;omega) (by simp) h.2.2).mono ?_
  rintro e w' ⟨A',k',rfl,hr,hb⟩
  exact⟨_,_,_,_,rfl,⟨by rw[rS_cons,h.1],by rw[h.2.1];rfl,by rw[rP_cons];exact hr⟩,hb⟩
theorem turn_r (S:List UInt8) (A:Option Addr) (n k:Nat) (st:Stk) (c d:UInt8) (p:Int) (f:Bool) (w:World) (h:Rs w S A n k ((d,p)::st)) (hl:st.length≤1000) :
    Calls Tryz.prog 77 #[.agg #[.string ⟨S.toArray⟩,.slice A n k,.bool f],.string ⟨[c].toArray⟩] w (Ro w ((c,p)::st) f):=by
  have hlen:=h.len
  refine(turn_c S [c] A st.length n k f w (by simpa using hlen) (by omega) (by simp)).mono ?_
  rintro e w' ⟨rfl,hb⟩
  refine⟨_,_,_,_,rfl,⟨by rw[rS_cons,h.1,rS_take _ _ _ _ rfl],h.2.1,?_⟩,hb⟩
  have:=h.2.2.next hb
  rw[rP_cons] at this ⊢
  exact this
theorem pop_r (S:List UInt8) (A:Option Addr) (n k:Nat) (st:Stk) (f:Bool) (w:World) (h:Rs w S A n k st) (hne:st≠[]) (hl:st.length≤1000) :
    Calls Tryz.prog 78 #[.agg #[.string ⟨S.toArray⟩,.slice A n k,.bool f]] w (Ro w st.tail f):=by
  match st,hne with
  | (c,p)::r,_=>
    have hlen:=h.len
    obtain⟨h1,h2,h3⟩:=h
    simp only[List.length_cons] at hlen h2 hl
    subst h2
    have hk:=h3.le
    refine(pop_c S A r.length k f w hlen (by omega) hk.2.1 hk.2.2).mono ?_
    rintro e w' ⟨rfl,hb⟩
    refine⟨_,_,_,_,rfl,⟨by rw[h1,rS_take _ _ _ _ rfl];rfl,rfl,?_⟩,hb⟩
    have:=(h3.next hb).take (k:=r.length) (by omega)
    rw[Nat.mul_one,←List.map_take,rP_take _ _ _ _ rfl] at this
    exact this
theorem mark_r (S:List UInt8) (A:Option Addr) (n k:Nat) (st:Stk) (f g:Bool) (w:World) (h:Rs w S A n k st) :
    Calls Tryz.prog 76 #[.agg #[.string ⟨S.toArray⟩,.slice A n k,.bool f],.bool g] w (Ro w st g):=by
  refine(mark_c S A n k f g w).mono ?_
  rintro e w' ⟨rfl,hb⟩
  exact⟨_,_,_,_,rfl,h.next hb,hb⟩
theorem ro_fin {w W F:World} {c:Nat} {S:List UInt8} {A:Option Addr} {n k:Nat} {f f':Bool} {st st':Stk} (hc:w.heap.size≤c) (hx:Rs W S A n k st') (hb:Below w.heap.size w W) {cs cs':Array Value} (hk:Bk W c 95 cs) (_hF:Bk F c 95 cs')
    (hg:W.grownBy F (some c)) (hs:st'=st) (hf:f'=f):Ro w st f (.returned (.agg #[.string ⟨S.toArray⟩,.slice A n k,.bool f'])) F:=by
  subst hs hf
  refine⟨_,_,_,_,rfl,⟨hx.1,hx.2.1,hx.2.2.keep hg (hk.row (by decide))⟩,hb.grown hg hb.size (by intro j hj;injection hj with hj;omega)⟩
theorem byte_cases (b:UInt8):b=92∨b=39∨b=34∨b=96∨b=36∨b=35∨b=40∨b=41∨(((b.toNat:Int)==92)=false∧((b.toNat:Int)==39)=false∧((b.toNat:Int)==34)=false∧((b.toNat:Int)==96)=false∧((b.toNat:Int)==36)=false∧((b.toNat:Int)==35)=false∧((b.toNat:Int)==40)=false∧((b.toNat:Int)==41)=false):=by
  have:=byte_all (fun b=>b==92||b==39||b==34||b==96||b==36||b==35||b==40||b==41||(((b.toNat:Int)==92)==false&&((b.toNat:Int)==39)==false&&((b.toNat:Int)==34)==false&&((b.toNat:Int)==96)==false&&((b.toNat:Int)==36)==false&&((b.toNat:Int)==35)==false&&((b.toNat:Int)==40)==false&&((b.toNat:Int)==41)==false)) (by decide +kernel) b
  simpa [or_assoc,and_assoc] using this
theorem opens_0 (c:UInt8) (w:World) (h:opensL c=[]) :
    Calls Tryz.prog 110 #[.int .u8 (c.toNat:Int)] w fun e w'=>e=.returned (.string ⟨#[]⟩)∧w=w':=by
  have:=opens_c c w
  rwa [h] at this
theorem ro_same {w F:World} {S:List UInt8} {A:Option Addr} {n k:Nat} {f f':Bool} {st st':Stk} (hx:Rs w S A n k st') (hb:Below w.heap.size w F) (hs:st'=st) (hf:f'=f) :
    Ro w st f (.returned (.agg #[.string ⟨S.toArray⟩,.slice A n k,.bool f'])) F:=by
  subst hs hf
  exact⟨_,_,_,_,rfl,hx.next hb,hb⟩
end Go.Proofs.YtnclfgkpcpcapaaGreatDoor
namespace Go.Proofs.YtnclfgkpcpcapaaGreatDoor
open Go.RowKit
set_option linter.unusedVariables false
set_option linter.unusedSimpArgs false
set_option maxRecDepth 100000
theorem call3 {P:Program} {f:FuncId} {args:Array Value} {Q:Ending→World→Prop} {w:World} {c:Nat} {t:TypeId} {u0 u1 u2 v0 v1 v2:Value} (hb:Bk w c t #[u0,u1,u2])
    (h:∀F,Bk F c t #[v0,v1,v2]→w.grownBy F (some c)→Calls P f args F Q) :
    Calls P f args (((w.setCell ⟨c,0,none⟩ v0).setCell ⟨c,1,none⟩ v1).setCell ⟨c,2,none⟩ v2) Q:=by
  have hF:Bk (((w.setCell ⟨c,0,none⟩ v0).setCell ⟨c,1,none⟩ v1).setCell ⟨c,2,none⟩ v2) c t #[v0,v1,v2]:=by simpa using ((hb.set 0 v0).set 1 v1).set 2 v2
  exact h _ hF (grown_set (grown_set (grown_set (grown_refl _ _) _ _) _ _) _ _)
theorem bk_first (w:World) (cs1 cs2:Array Value) (t1 t2:TypeId):Bk ((w.alloc (.cells cs1 t1)).alloc (.cells cs2 t2)) w.heap.size t1 cs1:=(Bk.new w t1 cs1).alloc _
theorem fin33 {P:Program} {fn:Func} {R:Ending→World→Prop} {e:Exit} {a:Act} {w:World} {c d:Nat} {t:TypeId} {u0 u1 u2 v0 v1 v2 x0 x1 x2 y0 y1 y2:Value} (hb:Bk w c t #[u0,u1,u2]) (hd:Bk w d t #[x0,x1,x2]) (hne:d≠c)
    (h:∀F0 F,Bk F0 d t #[x0,x1,x2]→w.grownBy F0 (some c)→Bk F d t #[y0,y1,y2]→F0.grownBy F (some d)→F.cell? ⟨d,0,none⟩=some y0→F.cell? ⟨d,1,none⟩=some y1→F.cell? ⟨d,2,none⟩=some y2→bodyPost P fn R e a F) :
    bodyPost P fn R e a ((((((w.setCell ⟨c,0,none⟩ v0).setCell ⟨c,1,none⟩ v1).setCell ⟨c,2,none⟩ v2).setCell ⟨d,0,none⟩ y0).setCell ⟨d,1,none⟩ y1).setCell ⟨d,2,none⟩ y2):=by
  have hg:w.grownBy (((w.setCell ⟨c,0,none⟩ v0).setCell ⟨c,1,none⟩ v1).setCell ⟨c,2,none⟩ v2) (some c):=grown_set (grown_set (grown_set (grown_refl _ _) _ _) _ _) _ _
  have hd0:=hd.grown hg (by simpa using hne)
  exact fin3 hd0 fun F hF hgF z0 z1 z2=>h _ F hd0 hg hF hgF z0 z1 z2
end Go.Proofs.YtnclfgkpcpcapaaGreatDoor
namespace Go.Proofs.YtnclfgkpcpcapaaGreatDoor
open Go.RowKit
set_option linter.unusedVariables false
set_option linter.unusedSimpArgs false
set_option maxRecDepth 100000
theorem rends_c (c:UInt8) (w:World) :
    Calls Tryz.prog 58 #[.int .u8 (c.toNat:Int)] w fun e w'=>e=.returned (.bool (endsB c))∧w=w':=by
  go_enter Tryz.func58,Tryz.ntmps58
  go_wp2_with (go_at_call 39;refine(class_c _ _).mono ?_;rintro e w' ⟨rfl,rfl⟩)
  all_goals go_ret
  all_goals refine⟨ret_bool ?_,by first|rfl|trivial⟩
  all_goals (show _=endsB c)
  all_goals go_light
  all_goals try simp only[beq_iff_eq,beq_eq_false_iff_ne,ne_eq] at *
  all_goals unfold endsB
  all_goals (rw[Bool.eq_iff_iff];first|(simp_all;done)|(simp;omega)|omega)
end Go.Proofs.YtnclfgkpcpcapaaGreatDoor
namespace Go.Proofs.YtnclfgkpcpcapaaGreatDoor
open Go.RowKit
set_option linter.unusedVariables false
set_option linter.unusedSimpArgs false
set_option maxRecDepth 100000
set_option maxHeartbeats 8000000 in
theorem program_r (S:List UInt8) (A:Option Addr) (n k:Nat) (st:Stk) (f:Bool) (c b:UInt8) (at_:Int) (w:World) (h:Rs w S A n k st) (hne:st≠[]) (hl:st.length≤1000) :
    Calls Tryz.prog 108 #[.agg #[.string ⟨S.toArray⟩,.slice A n k,.bool f],.int .u8 (c.toNat:Int),.int .u8 (b.toNat:Int),.int .i64 at_] w (Ro w (rProgram st f c b at_).1 (rProgram st f c b at_).2):=by
  have H:=Lib.hid h
  clear h
  rcases byte_cases b with rfl|rfl|rfl|rfl|rfl|rfl|rfl|rfl|⟨h92,h39,h34,h96,h36,h35,h40,h41⟩
  case' inr.inr.inr.inr.inr.inl=>cases f
  all_goals (
    go_enter Tryz.func108,Tryz.ntmps108
    go_wp2_with (first
    | (go_at_call 109;refine(push_r S A n k st _ at_ _ _ (H.out.next (by go_grown)) hl).mono ?_
       rintro e w1 ⟨S1,A1,n1,k1,rfl,hx1,hb1⟩
       have Hx1:=Lib.hid hx1
       clear hx1
       have hz1:=hb1.size
       have hz1:w.heap.size+1<w1.heap.size:=by simp at hz1;omega
       have q1:Below w.heap.size w w1:=below_next (by go_grown) hb1
       have kk1:=Bk.below (cs:=#[.string ⟨#[]⟩,.slice none 0 0,.bool false]) (by first|exact bk_second w _ _ _ _|exact(bk_second w _ _ _ _).drew:Bk _ (w.heap.size+1) 95 _) hb1 (by simp)
       obtain⟨y0,y1,y2,z0,z1,z2⟩:=kk1.three
       have Hb1:=Lib.hid hb1
       clear hb1)
    | (go_at_call 78;refine(pop_r S A n k st _ _ (H.out.next (by go_grown)) hne hl).mono ?_
       rintro e w1 ⟨S1,A1,n1,k1,rfl,hx1,hb1⟩
       have Hx1:=Lib.hid hx1
       clear hx1
       have hz1:=hb1.size
       have hz1:w.heap.size+1<w1.heap.size:=by simp at hz1;omega
       have q1:Below w.heap.size w w1:=below_next (by go_grown) hb1
       have kk1:=Bk.below (cs:=#[.string ⟨#[]⟩,.slice none 0 0,.bool false]) (by first|exact bk_second w _ _ _ _|exact(bk_second w _ _ _ _).drew:Bk _ (w.heap.size+1) 95 _) hb1 (by simp)
       obtain⟨y0,y1,y2,z0,z1,z2⟩:=kk1.three
       have Hb1:=Lib.hid hb1
       clear hb1)
    | (go_at_call 76;refine(mark_r S1 A1 n1 k1 _ _ _ _ Hx1.out).mono ?_
       rintro e w2 ⟨S2,A2,n2,k2,rfl,hx2,hb2⟩
       have Hx2:=Lib.hid hx2
       clear hx2
       have q2:Below w.heap.size w w2:=q1.trans (hb2.mono q1.size)
       have kk2:=kk1.below hb2 kk1.lt
       obtain⟨y0,y1,y2,z0,z1,z2⟩:=kk2.three)
    | (go_at_call 76;refine(mark_r S A n k st _ _ _ (H.out.next (by go_grown))).mono ?_
       rintro e w1 ⟨S1,A1,n1,k1,rfl,hx1,hb1⟩
       have Hx1:=Lib.hid hx1
       clear hx1
       have hz1:=hb1.size
       have hz1:w.heap.size+1<w1.heap.size:=by simp at hz1;omega
       have q1:Below w.heap.size w w1:=below_next (by go_grown) hb1
       have kk1:=Bk.below (cs:=#[.string ⟨#[]⟩,.slice none 0 0,.bool false]) (by first|exact bk_second w _ _ _ _|exact(bk_second w _ _ _ _).drew:Bk _ (w.heap.size+1) 95 _) hb1 (by simp)
       obtain⟨y0,y1,y2,z0,z1,z2⟩:=kk1.three
       have Hb1:=Lib.hid hb1
       clear hb1)
    | (go_at_call 58;refine(rends_c b _).mono ?_;rintro e w' ⟨rfl,rfl⟩)
    | (go_at_call 58;refine(rends_c 35 _).mono ?_;rintro e w' ⟨rfl,rfl⟩))
    try (
     go_region_with (first
    | (go_at_call 109;refine(push_r S A n k st _ at_ _ _ (H.out.next (by go_grown)) hl).mono ?_
       rintro e w1 ⟨S1,A1,n1,k1,rfl,hx1,hb1⟩
       have Hx1:=Lib.hid hx1
       clear hx1
       have hz1:=hb1.size
       have hz1:w.heap.size+1<w1.heap.size:=by simp at hz1;omega
       have q1:Below w.heap.size w w1:=below_next (by go_grown) hb1
       have kk1:=Bk.below (cs:=#[.string ⟨#[]⟩,.slice none 0 0,.bool false]) (by first|exact bk_second w _ _ _ _|exact(bk_second w _ _ _ _).drew:Bk _ (w.heap.size+1) 95 _) hb1 (by simp)
       obtain⟨y0,y1,y2,z0,z1,z2⟩:=kk1.three
       have Hb1:=Lib.hid hb1
       clear hb1)
    | (go_at_call 76;refine(mark_r S1 A1 n1 k1 _ _ _ _ Hx1.out).mono ?_
       rintro e w2 ⟨S2,A2,n2,k2,rfl,hx2,hb2⟩
       have Hx2:=Lib.hid hx2
       clear hx2
       have q2:Below w.heap.size w w2:=q1.trans (hb2.mono q1.size)
       have kk2:=kk1.below hb2 kk1.lt
       obtain⟨y0,y1,y2,z0,z1,z2⟩:=kk2.three)
    | (go_at_call 76;refine(mark_r S A n k st _ _ _ (H.out.next (by go_grown))).mono ?_
       rintro e w1 ⟨S1,A1,n1,k1,rfl,hx1,hb1⟩
       have Hx1:=Lib.hid hx1
       clear hx1
       have hz1:=hb1.size
       have hz1:w.heap.size+1<w1.heap.size:=by simp at hz1;omega
       have q1:Below w.heap.size w w1:=below_next (by go_grown) hb1
       have kk1:=Bk.below (cs:=#[.string ⟨#[]⟩,.slice none 0 0,.bool false]) (by first|exact bk_second w _ _ _ _|exact(bk_second w _ _ _ _).drew:Bk _ (w.heap.size+1) 95 _) hb1 (by simp)
       obtain⟨y0,y1,y2,z0,z1,z2⟩:=kk1.three
       have Hb1:=Lib.hid hb1
       clear hb1)
    | (go_at_call 58;refine(rends_c b _).mono ?_;rintro e w' ⟨rfl,rfl⟩)
    | (go_at_call 58;refine(rends_c 35 _).mono ?_;rintro e w' ⟨rfl,rfl⟩)
    | (go_at_call 110;refine(opens_k 96 66 _ (by decide)).mono ?_;rintro e w' ⟨rfl,rfl⟩)
    | (go_at_call 110;refine(opens_k 36 76 _ (by decide)).mono ?_;rintro e w' ⟨rfl,rfl⟩))
     all_goals (go_wp2_with (first
    | (go_at_call 109;refine(push_r S A n k st _ at_ _ _ (H.out.next (by go_grown)) hl).mono ?_
       rintro e w1 ⟨S1,A1,n1,k1,rfl,hx1,hb1⟩
       have Hx1:=Lib.hid hx1
       clear hx1
       have hz1:=hb1.size
       have hz1:w.heap.size+1<w1.heap.size:=by simp at hz1;omega
       have q1:Below w.heap.size w w1:=below_next (by go_grown) hb1
       have kk1:=Bk.below (cs:=#[.string ⟨#[]⟩,.slice none 0 0,.bool false]) (by first|exact bk_second w _ _ _ _|exact(bk_second w _ _ _ _).drew:Bk _ (w.heap.size+1) 95 _) hb1 (by simp)
       obtain⟨y0,y1,y2,z0,z1,z2⟩:=kk1.three
       have Hb1:=Lib.hid hb1
       clear hb1)
    | (go_at_call 76;refine(mark_r S1 A1 n1 k1 _ _ _ _ Hx1.out).mono ?_
       rintro e w2 ⟨S2,A2,n2,k2,rfl,hx2,hb2⟩
       have Hx2:=Lib.hid hx2
       clear hx2
       have q2:Below w.heap.size w w2:=q1.trans (hb2.mono q1.size)
       have kk2:=kk1.below hb2 kk1.lt
       obtain⟨y0,y1,y2,z0,z1,z2⟩:=kk2.three))))
    all_goals first
    | (refine fin3 kk2 fun F hF hgF x0 x1 x2=>?_
       refine bodyPost_ret (by simp[results,Tryz.results108,go_sem,x0,x1,x2];try rfl) rfl ?_
       refine ro_fin (by omega) Hx2.out q2 kk2 hF hgF ?_ ?_)
    | (refine fin3 kk1 fun F hF hgF x0 x1 x2=>?_
       refine bodyPost_ret (by simp[results,Tryz.results108,go_sem,x0,x1,x2];try rfl) rfl ?_
       refine ro_fin (by omega) Hx1.out q1 kk1 hF hgF ?_ ?_)
    | (go_returns
       refine ro_same H.out (by go_grown) ?_ ?_)
    all_goals go_light
    all_goals try simp only[beq_iff_eq,beq_eq_false_iff_ne,ne_eq] at *
    all_goals unfold rProgram
    all_goals try dsimp only
    all_goals (repeat (first|rw[if_pos (by first|decide|omega|(simp;done)|(simp;omega))]|rw[if_neg (by first|decide|omega|(simp;done)|(simp;omega))]))
    all_goals first|rfl|(simp;done)|(rw[Bool.eq_iff_iff];simp;omega)|(have e:=Hst.out;generalize st.tail=r at *;subst e;rfl)
    )
end Go.Proofs.YtnclfgkpcpcapaaGreatDoor
namespace Go.Proofs.YtnclfgkpcpcapaaGreatDoor
open Go.RowKit
set_option linter.unusedVariables false
set_option linter.unusedSimpArgs false
set_option maxRecDepth 100000
def PlC (c b:UInt8):Prop:=∀(S:List UInt8) (A:Option Addr) (n k:Nat) (st:Stk) (f:Bool) (at_:Int) (w:World),Rs w S A n k st→∀hd:UInt8×Int,st=hd::st.tail→st.length≤1000 →
    Calls Tryz.prog 79 #[.agg #[.string ⟨S.toArray⟩,.slice A n k,.bool f],.int .u8 (c.toNat:Int),.int .u8 (b.toNat:Int),.int .i64 at_] w (Ro w (rPlain st f c b at_).1 (rPlain st f c b at_).2)
set_option maxHeartbeats 8000000 in
theorem pl_gb:(PlC 83 39) ∧
    (∀(b:UInt8),((b.toNat:Int)==39)=false→PlC 83 b) ∧
    (PlC 35 10) ∧
    (∀(b:UInt8),((b.toNat:Int)==10)=false→PlC 35 b) ∧
    (PlC 66 96) ∧
    (PlC 66 92) ∧
    (∀(b:UInt8),((b.toNat:Int)==96)=false→((b.toNat:Int)==92)=false→PlC 66 b):=by
  refine⟨?_,?_,?_,?_,?_,?_,?_⟩
  all_goals intros
  all_goals (
    intro S A n k st f at_ w h hd hst hl
    have hne:st≠[]:=by rw[hst];simp
    have H:=Lib.hid h
    have Hst:=Lib.hid hst
    clear h hst
    go_enter Tryz.func79,Tryz.ntmps79
    go_wp2_with (first
      | (go_at_call 78;refine(pop_r S A n k st _ _ (H.out.next (by go_grown)) hne hl).mono ?_
         rintro e w1 ⟨S1,A1,n1,k1,rfl,hx1,hb1⟩
         have Hx1:=Lib.hid hx1
         clear hx1
         have hz1:=hb1.size
         have hz1:w.heap.size+1<w1.heap.size:=by simp at hz1;omega
         have q1:Below w.heap.size w w1:=below_next (by go_grown) hb1
         have kk1:=Bk.below (cs:=#[.string ⟨#[]⟩,.slice none 0 0,.bool false]) (by first|exact bk_second w _ _ _ _|exact(bk_second w _ _ _ _).drew:Bk _ (w.heap.size+1) 95 _) hb1 (by simp)
         obtain⟨y0,y1,y2,z0,z1,z2⟩:=kk1.three
         have Hb1:=Lib.hid hb1
         clear hb1)
      | (go_at_call 76;refine(mark_r S1 A1 n1 k1 _ _ _ _ Hx1.out).mono ?_
         rintro e w2 ⟨S2,A2,n2,k2,rfl,hx2,hb2⟩
         have Hx2:=Lib.hid hx2
         clear hx2
         have q2:Below w.heap.size w w2:=q1.trans (hb2.mono q1.size)
         have kk2:=kk1.below hb2 kk1.lt
         obtain⟨y0,y1,y2,z0,z1,z2⟩:=kk2.three)
      | (go_at_call 109;refine(push_r S A n k st _ at_ _ _ (H.out.next (by go_grown)) hl).mono ?_
         rintro e w1 ⟨S1,A1,n1,k1,rfl,hx1,hb1⟩
         have Hx1:=Lib.hid hx1
         clear hx1
         have hz1:=hb1.size
         have hz1:w.heap.size+1<w1.heap.size:=by simp at hz1;omega
         have q1:Below w.heap.size w w1:=below_next (by go_grown) hb1
         have kk1:=Bk.below (cs:=#[.string ⟨#[]⟩,.slice none 0 0,.bool false]) (by first|exact bk_second w _ _ _ _|exact(bk_second w _ _ _ _).drew:Bk _ (w.heap.size+1) 95 _) hb1 (by simp)
         obtain⟨y0,y1,y2,z0,z1,z2⟩:=kk1.three
         have Hb1:=Lib.hid hb1
         clear hb1))
    all_goals first
    | (refine fin3 kk2 fun F hF hgF x0 x1 x2=>?_
       refine bodyPost_ret (by simp[results,Tryz.results79,go_sem,x0,x1,x2];try rfl) rfl ?_
       refine ro_fin (by omega) Hx2.out q2 kk2 hF hgF ?_ ?_)
    | (refine fin3 kk1 fun F hF hgF x0 x1 x2=>?_
       refine bodyPost_ret (by simp[results,Tryz.results79,go_sem,x0,x1,x2];try rfl) rfl ?_
       refine ro_fin (by omega) Hx1.out q1 kk1 hF hgF ?_ ?_)
    | (go_returns
       refine ro_same H.out (by go_grown) ?_ ?_)
    all_goals go_light
    all_goals try simp only[beq_iff_eq,beq_eq_false_iff_ne,ne_eq] at *
    all_goals unfold rPlain
    all_goals try dsimp only
    all_goals (repeat (first|rw[if_pos (by first|decide|omega|(simp;done)|(simp;omega))]|rw[if_neg (by first|decide|omega|(simp;done)|(simp;omega))]))
    all_goals first|rfl|(simp;done)|(rw[Bool.eq_iff_iff];simp;omega)|(have e:=Hst.out;generalize st.tail=r at *;subst e;rfl))
set_option maxHeartbeats 8000000 in
theorem pl_gd:(opensL 40=[]→PlC 65 40) ∧
    (opensL 41=[]→PlC 65 41) ∧
    (∀(b:UInt8),((b.toNat:Int)==92)=false→((b.toNat:Int)==36)=false→((b.toNat:Int)==96)=false→((b.toNat:Int)==40)=false→((b.toNat:Int)==41)=false→opensL b=[]→PlC 65 b) ∧
    (opensL 40=[]→PlC 82 40) ∧
    (opensL 41=[]→PlC 82 41) ∧
    (∀(b:UInt8),((b.toNat:Int)==92)=false→((b.toNat:Int)==36)=false→((b.toNat:Int)==96)=false→((b.toNat:Int)==40)=false→((b.toNat:Int)==41)=false→opensL b=[]→PlC 82 b):=by
  refine⟨?_,?_,?_,?_,?_,?_⟩
  all_goals intros
  all_goals rename_i ho
  all_goals have Ho:=Lib.hid ho
  all_goals clear ho
  all_goals (
    intro S A n k st f at_ w h hd hst hl
    have hne:st≠[]:=by rw[hst];simp
    have H:=Lib.hid h
    have Hst:=Lib.hid hst
    clear h hst
    go_enter Tryz.func79,Tryz.ntmps79
    go_wp2_with (first
      | (go_at_call 110;refine(opens_0 _ _ Ho.out).mono ?_;rintro e w' ⟨rfl,rfl⟩)
      | (go_at_call 109;refine(push_r S A n k st _ at_ _ _ (H.out.next (by go_grown)) hl).mono ?_
         rintro e w1 ⟨S1,A1,n1,k1,rfl,hx1,hb1⟩
         have Hx1:=Lib.hid hx1
         clear hx1
         have hz1:=hb1.size
         have hz1:w.heap.size+1<w1.heap.size:=by simp at hz1;omega
         have q1:Below w.heap.size w w1:=below_next (by go_grown) hb1
         have kk1:=Bk.below (cs:=#[.string ⟨#[]⟩,.slice none 0 0,.bool false]) (by first|exact bk_second w _ _ _ _|exact(bk_second w _ _ _ _).drew:Bk _ (w.heap.size+1) 95 _) hb1 (by simp)
         obtain⟨y0,y1,y2,z0,z1,z2⟩:=kk1.three
         have Hb1:=Lib.hid hb1
         clear hb1)
      | (go_at_call 78;refine(pop_r S A n k st _ _ (H.out.next (by go_grown)) hne hl).mono ?_
         rintro e w1 ⟨S1,A1,n1,k1,rfl,hx1,hb1⟩
         have Hx1:=Lib.hid hx1
         clear hx1
         have hz1:=hb1.size
         have hz1:w.heap.size+1<w1.heap.size:=by simp at hz1;omega
         have q1:Below w.heap.size w w1:=below_next (by go_grown) hb1
         have kk1:=Bk.below (cs:=#[.string ⟨#[]⟩,.slice none 0 0,.bool false]) (by first|exact bk_second w _ _ _ _|exact(bk_second w _ _ _ _).drew:Bk _ (w.heap.size+1) 95 _) hb1 (by simp)
         obtain⟨y0,y1,y2,z0,z1,z2⟩:=kk1.three
         have Hb1:=Lib.hid hb1
         clear hb1)
      | (go_at_call 77;refine(turn_r S A n k st.tail _ hd.1 hd.2 _ _ (by rw[←Hst.out];exact H.out.next (by go_grown)) (by rw[List.length_tail];omega)).mono ?_
         rintro e w1 ⟨S1,A1,n1,k1,rfl,hx1,hb1⟩
         have Hx1:=Lib.hid hx1
         clear hx1
         have hz1:=hb1.size
         have hz1:w.heap.size+1<w1.heap.size:=by simp at hz1;omega
         have q1:Below w.heap.size w w1:=below_next (by go_grown) hb1
         have kk1:=Bk.below (cs:=#[.string ⟨#[]⟩,.slice none 0 0,.bool false]) (by first|exact bk_second w _ _ _ _|exact(bk_second w _ _ _ _).drew:Bk _ (w.heap.size+1) 95 _) hb1 (by simp)
         obtain⟨y0,y1,y2,z0,z1,z2⟩:=kk1.three
         have Hb1:=Lib.hid hb1
         clear hb1))
    all_goals first
    | (refine fin3 kk2 fun F hF hgF x0 x1 x2=>?_
       refine bodyPost_ret (by simp[results,Tryz.results79,go_sem,x0,x1,x2];try rfl) rfl ?_
       refine ro_fin (by omega) Hx2.out q2 kk2 hF hgF ?_ ?_)
    | (refine fin3 kk1 fun F hF hgF x0 x1 x2=>?_
       refine bodyPost_ret (by simp[results,Tryz.results79,go_sem,x0,x1,x2];try rfl) rfl ?_
       refine ro_fin (by omega) Hx1.out q1 kk1 hF hgF ?_ ?_)
    | (go_returns
       refine ro_same H.out (by go_grown) ?_ ?_)
    all_goals go_light
    all_goals try simp only[beq_iff_eq,beq_eq_false_iff_ne,ne_eq] at *
    all_goals unfold rPlain
    all_goals try dsimp only
    all_goals (repeat (first|rw[if_pos (by first|decide|omega|(simp;done)|(simp;omega))]|rw[if_neg (by first|decide|omega|(simp;done)|(simp;omega))]))
    all_goals first|rfl|(simp;done)|(rw[Bool.eq_iff_iff];simp;omega)|(have e:=Hst.out;generalize st.tail=r at *;subst e;rfl))
set_option maxHeartbeats 8000000 in
theorem pl_ge:(opensL 34=[]→PlC 68 34) ∧
    (∀(b:UInt8),((b.toNat:Int)==92)=false→((b.toNat:Int)==36)=false→((b.toNat:Int)==96)=false→((b.toNat:Int)==34)=false→opensL b=[]→PlC 68 b) ∧
    (∀(c:UInt8),((c.toNat:Int)==84)=false→((c.toNat:Int)==67)=false→((c.toNat:Int)==80)=false→((c.toNat:Int)==88)=false→((c.toNat:Int)==83)=false→((c.toNat:Int)==35)=false→((c.toNat:Int)==66)=false→((c.toNat:Int)==65)=false→((c.toNat:Int)==82)=false→((c.toNat:Int)==68)=false→opensL 34=[]→PlC c 34) ∧
    (∀(c:UInt8),((c.toNat:Int)==84)=false→((c.toNat:Int)==67)=false→((c.toNat:Int)==80)=false→((c.toNat:Int)==88)=false→((c.toNat:Int)==83)=false→((c.toNat:Int)==35)=false→((c.toNat:Int)==66)=false→((c.toNat:Int)==65)=false→((c.toNat:Int)==82)=false→((c.toNat:Int)==68)=false→opensL 125=[]→PlC c 125) ∧
    (opensL 39=[]→PlC 86 39) ∧
    (∀(c:UInt8),((c.toNat:Int)==84)=false→((c.toNat:Int)==67)=false→((c.toNat:Int)==80)=false→((c.toNat:Int)==88)=false→((c.toNat:Int)==83)=false→((c.toNat:Int)==35)=false→((c.toNat:Int)==66)=false→((c.toNat:Int)==65)=false→((c.toNat:Int)==82)=false→((c.toNat:Int)==68)=false→((c.toNat:Int)==86)=false→opensL 39=[]→PlC c 39) ∧
    (∀(c b:UInt8),((c.toNat:Int)==84)=false→((c.toNat:Int)==67)=false→((c.toNat:Int)==80)=false→((c.toNat:Int)==88)=false→((c.toNat:Int)==83)=false→((c.toNat:Int)==35)=false→((c.toNat:Int)==66)=false→((c.toNat:Int)==65)=false→((c.toNat:Int)==82)=false→((c.toNat:Int)==68)=false→((b.toNat:Int)==92)=false→((b.toNat:Int)==36)=false→((b.toNat:Int)==96)=false→((b.toNat:Int)==34)=false→((b.toNat:Int)==125)=false→((b.toNat:Int)==39)=false→opensL b=[]→PlC c b):=by
  refine⟨?_,?_,?_,?_,?_,?_,?_⟩
  all_goals intros
  all_goals rename_i ho
  all_goals have Ho:=Lib.hid ho
  all_goals clear ho
  all_goals (
    intro S A n k st f at_ w h hd hst hl
    have hne:st≠[]:=by rw[hst];simp
    have H:=Lib.hid h
    have Hst:=Lib.hid hst
    clear h hst
    go_enter Tryz.func79,Tryz.ntmps79
    go_wp2_with (first
      | (go_at_call 110;refine(opens_0 _ _ Ho.out).mono ?_;rintro e w' ⟨rfl,rfl⟩)
      | (go_at_call 78;refine(pop_r S A n k st _ _ (H.out.next (by go_grown)) hne hl).mono ?_
         rintro e w1 ⟨S1,A1,n1,k1,rfl,hx1,hb1⟩
         have Hx1:=Lib.hid hx1
         clear hx1
         have hz1:=hb1.size
         have hz1:w.heap.size+1<w1.heap.size:=by simp at hz1;omega
         have q1:Below w.heap.size w w1:=below_next (by go_grown) hb1
         have kk1:=Bk.below (cs:=#[.string ⟨#[]⟩,.slice none 0 0,.bool false]) (by first|exact bk_second w _ _ _ _|exact(bk_second w _ _ _ _).drew:Bk _ (w.heap.size+1) 95 _) hb1 (by simp)
         obtain⟨y0,y1,y2,z0,z1,z2⟩:=kk1.three
         have Hb1:=Lib.hid hb1
         clear hb1)
      | (go_at_call 109;refine(push_r S A n k st _ at_ _ _ (H.out.next (by go_grown)) hl).mono ?_
         rintro e w1 ⟨S1,A1,n1,k1,rfl,hx1,hb1⟩
         have Hx1:=Lib.hid hx1
         clear hx1
         have hz1:=hb1.size
         have hz1:w.heap.size+1<w1.heap.size:=by simp at hz1;omega
         have q1:Below w.heap.size w w1:=below_next (by go_grown) hb1
         have kk1:=Bk.below (cs:=#[.string ⟨#[]⟩,.slice none 0 0,.bool false]) (by first|exact bk_second w _ _ _ _|exact(bk_second w _ _ _ _).drew:Bk _ (w.heap.size+1) 95 _) hb1 (by simp)
         obtain⟨y0,y1,y2,z0,z1,z2⟩:=kk1.three
         have Hb1:=Lib.hid hb1
         clear hb1))
    all_goals first
    | (refine fin3 kk2 fun F hF hgF x0 x1 x2=>?_
       refine bodyPost_ret (by simp[results,Tryz.results79,go_sem,x0,x1,x2];try rfl) rfl ?_
       refine ro_fin (by omega) Hx2.out q2 kk2 hF hgF ?_ ?_)
    | (refine fin3 kk1 fun F hF hgF x0 x1 x2=>?_
       refine bodyPost_ret (by simp[results,Tryz.results79,go_sem,x0,x1,x2];try rfl) rfl ?_
       refine ro_fin (by omega) Hx1.out q1 kk1 hF hgF ?_ ?_)
    | (go_returns
       refine ro_same H.out (by go_grown) ?_ ?_)
    all_goals go_light
    all_goals try simp only[beq_iff_eq,beq_eq_false_iff_ne,ne_eq] at *
    all_goals unfold rPlain
    all_goals try dsimp only
    all_goals (repeat (first|rw[if_pos (by first|decide|omega|(simp;done)|(simp;omega))]|rw[if_neg (by first|decide|omega|(simp;done)|(simp;omega))]))
    all_goals first|rfl|(simp;done)|(rw[Bool.eq_iff_iff];simp;omega)|(have e:=Hst.out;generalize st.tail=r at *;subst e;rfl))
set_option maxHeartbeats 2000000 in
theorem pl_84 (S:List UInt8) (A:Option Addr) (n k:Nat) (st:Stk) (f:Bool) (b:UInt8) (at_:Int) (w:World) (h:Rs w S A n k st) (hd:UInt8×Int) (hst:st=hd::st.tail) (hl:st.length≤1000) :
    Calls Tryz.prog 79 #[.agg #[.string ⟨S.toArray⟩,.slice A n k,.bool f],.int .u8 ((84:UInt8).toNat:Int),.int .u8 ((b:UInt8).toNat:Int),.int .i64 at_] w (Ro w (rPlain st f 84 b at_).1 (rPlain st f 84 b at_).2):=by
  have hne:st≠[]:=by rw[hst];simp
  have H:=Lib.hid h
  have Hst:=Lib.hid hst
  clear h hst
  go_enter Tryz.func79,Tryz.ntmps79
  go_wp2_with (first
    | (go_at_call 108;refine(program_r S A n k st f 84 b at_ _ (H.out.next (by go_grown)) hne hl).mono ?_
       rintro e w1 ⟨S1,A1,n1,k1,rfl,hx1,hb1⟩
       have Hx1:=Lib.hid hx1
       clear hx1
       have hz1:=hb1.size
       have hz1:w.heap.size+1<w1.heap.size:=by simp at hz1;omega
       have q1:Below w.heap.size w w1:=below_next (by go_grown) hb1
       have kk1:=Bk.below (cs:=#[.string ⟨#[]⟩,.slice none 0 0,.bool false]) (by first|exact bk_second w _ _ _ _|exact(bk_second w _ _ _ _).drew:Bk _ (w.heap.size+1) 95 _) hb1 (by simp)
       obtain⟨y0,y1,y2,z0,z1,z2⟩:=kk1.three
       have Hb1:=Lib.hid hb1
       clear hb1))
  all_goals first
  | (refine fin3 kk2 fun F hF hgF x0 x1 x2=>?_
     refine bodyPost_ret (by simp[results,Tryz.results79,go_sem,x0,x1,x2];try rfl) rfl ?_
     refine ro_fin (by omega) Hx2.out q2 kk2 hF hgF ?_ ?_)
  | (refine fin3 kk1 fun F hF hgF x0 x1 x2=>?_
     refine bodyPost_ret (by simp[results,Tryz.results79,go_sem,x0,x1,x2];try rfl) rfl ?_
     refine ro_fin (by omega) Hx1.out q1 kk1 hF hgF ?_ ?_)
  | (go_returns
     refine ro_same H.out (by go_grown) ?_ ?_)
  all_goals go_light
  all_goals try simp only[beq_iff_eq,beq_eq_false_iff_ne,ne_eq] at *
  all_goals unfold rPlain
  all_goals try dsimp only
  all_goals (repeat (first|rw[if_pos (by first|decide|omega|(simp;done)|(simp;omega))]|rw[if_neg (by first|decide|omega|(simp;done)|(simp;omega))]))
  all_goals first|rfl|(simp;done)|(rw[Bool.eq_iff_iff];simp;omega)|(have e:=Hst.out;generalize st.tail=r at *;subst e;rfl)
set_option maxHeartbeats 2000000 in
theorem pl_67 (S:List UInt8) (A:Option Addr) (n k:Nat) (st:Stk) (f:Bool) (b:UInt8) (at_:Int) (w:World) (h:Rs w S A n k st) (hd:UInt8×Int) (hst:st=hd::st.tail) (hl:st.length≤1000) :
    Calls Tryz.prog 79 #[.agg #[.string ⟨S.toArray⟩,.slice A n k,.bool f],.int .u8 ((67:UInt8).toNat:Int),.int .u8 ((b:UInt8).toNat:Int),.int .i64 at_] w (Ro w (rPlain st f 67 b at_).1 (rPlain st f 67 b at_).2):=by
  have hne:st≠[]:=by rw[hst];simp
  have H:=Lib.hid h
  have Hst:=Lib.hid hst
  clear h hst
  go_enter Tryz.func79,Tryz.ntmps79
  go_wp2_with (first
    | (go_at_call 108;refine(program_r S A n k st f 67 b at_ _ (H.out.next (by go_grown)) hne hl).mono ?_
       rintro e w1 ⟨S1,A1,n1,k1,rfl,hx1,hb1⟩
       have Hx1:=Lib.hid hx1
       clear hx1
       have hz1:=hb1.size
       have hz1:w.heap.size+1<w1.heap.size:=by simp at hz1;omega
       have q1:Below w.heap.size w w1:=below_next (by go_grown) hb1
       have kk1:=Bk.below (cs:=#[.string ⟨#[]⟩,.slice none 0 0,.bool false]) (by first|exact bk_second w _ _ _ _|exact(bk_second w _ _ _ _).drew:Bk _ (w.heap.size+1) 95 _) hb1 (by simp)
       obtain⟨y0,y1,y2,z0,z1,z2⟩:=kk1.three
       have Hb1:=Lib.hid hb1
       clear hb1))
  all_goals first
  | (refine fin3 kk2 fun F hF hgF x0 x1 x2=>?_
     refine bodyPost_ret (by simp[results,Tryz.results79,go_sem,x0,x1,x2];try rfl) rfl ?_
     refine ro_fin (by omega) Hx2.out q2 kk2 hF hgF ?_ ?_)
  | (refine fin3 kk1 fun F hF hgF x0 x1 x2=>?_
     refine bodyPost_ret (by simp[results,Tryz.results79,go_sem,x0,x1,x2];try rfl) rfl ?_
     refine ro_fin (by omega) Hx1.out q1 kk1 hF hgF ?_ ?_)
  | (go_returns
     refine ro_same H.out (by go_grown) ?_ ?_)
  all_goals go_light
  all_goals try simp only[beq_iff_eq,beq_eq_false_iff_ne,ne_eq] at *
  all_goals unfold rPlain
  all_goals try dsimp only
  all_goals (repeat (first|rw[if_pos (by first|decide|omega|(simp;done)|(simp;omega))]|rw[if_neg (by first|decide|omega|(simp;done)|(simp;omega))]))
  all_goals first|rfl|(simp;done)|(rw[Bool.eq_iff_iff];simp;omega)|(have e:=Hst.out;generalize st.tail=r at *;subst e;rfl)
set_option maxHeartbeats 2000000 in
theorem pl_80 (S:List UInt8) (A:Option Addr) (n k:Nat) (st:Stk) (f:Bool) (b:UInt8) (at_:Int) (w:World) (h:Rs w S A n k st) (hd:UInt8×Int) (hst:st=hd::st.tail) (hl:st.length≤1000) :
    Calls Tryz.prog 79 #[.agg #[.string ⟨S.toArray⟩,.slice A n k,.bool f],.int .u8 ((80:UInt8).toNat:Int),.int .u8 ((b:UInt8).toNat:Int),.int .i64 at_] w (Ro w (rPlain st f 80 b at_).1 (rPlain st f 80 b at_).2):=by
  have hne:st≠[]:=by rw[hst];simp
  have H:=Lib.hid h
  have Hst:=Lib.hid hst
  clear h hst
  go_enter Tryz.func79,Tryz.ntmps79
  go_wp2_with (first
    | (go_at_call 108;refine(program_r S A n k st f 80 b at_ _ (H.out.next (by go_grown)) hne hl).mono ?_
       rintro e w1 ⟨S1,A1,n1,k1,rfl,hx1,hb1⟩
       have Hx1:=Lib.hid hx1
       clear hx1
       have hz1:=hb1.size
       have hz1:w.heap.size+1<w1.heap.size:=by simp at hz1;omega
       have q1:Below w.heap.size w w1:=below_next (by go_grown) hb1
       have kk1:=Bk.below (cs:=#[.string ⟨#[]⟩,.slice none 0 0,.bool false]) (by first|exact bk_second w _ _ _ _|exact(bk_second w _ _ _ _).drew:Bk _ (w.heap.size+1) 95 _) hb1 (by simp)
       obtain⟨y0,y1,y2,z0,z1,z2⟩:=kk1.three
       have Hb1:=Lib.hid hb1
       clear hb1))
  all_goals first
  | (refine fin3 kk2 fun F hF hgF x0 x1 x2=>?_
     refine bodyPost_ret (by simp[results,Tryz.results79,go_sem,x0,x1,x2];try rfl) rfl ?_
     refine ro_fin (by omega) Hx2.out q2 kk2 hF hgF ?_ ?_)
  | (refine fin3 kk1 fun F hF hgF x0 x1 x2=>?_
     refine bodyPost_ret (by simp[results,Tryz.results79,go_sem,x0,x1,x2];try rfl) rfl ?_
     refine ro_fin (by omega) Hx1.out q1 kk1 hF hgF ?_ ?_)
  | (go_returns
     refine ro_same H.out (by go_grown) ?_ ?_)
  all_goals go_light
  all_goals try simp only[beq_iff_eq,beq_eq_false_iff_ne,ne_eq] at *
  all_goals unfold rPlain
  all_goals try dsimp only
  all_goals (repeat (first|rw[if_pos (by first|decide|omega|(simp;done)|(simp;omega))]|rw[if_neg (by first|decide|omega|(simp;done)|(simp;omega))]))
  all_goals first|rfl|(simp;done)|(rw[Bool.eq_iff_iff];simp;omega)|(have e:=Hst.out;generalize st.tail=r at *;subst e;rfl)
set_option maxHeartbeats 2000000 in
theorem pl_o92 (S:List UInt8) (A:Option Addr) (n k:Nat) (st:Stk) (f:Bool) (c:UInt8) (at_:Int) (w:World) (h:Rs w S A n k st) (hd:UInt8×Int) (hst:st=hd::st.tail) (hl:st.length≤1000) (hc84:((c.toNat:Int)==84)=false) (hc67:((c.toNat:Int)==67)=false) (hc80:((c.toNat:Int)==80)=false) (hc88:((c.toNat:Int)==88)=false) (hc83:((c.toNat:Int)==83)=false) (hc35:((c.toNat:Int)==35)=false) (hc66:((c.toNat:Int)==66)=false) :
    Calls Tryz.prog 79 #[.agg #[.string ⟨S.toArray⟩,.slice A n k,.bool f],.int .u8 ((c:UInt8).toNat:Int),.int .u8 ((92:UInt8).toNat:Int),.int .i64 at_] w (Ro w (rPlain st f c 92 at_).1 (rPlain st f c 92 at_).2):=by
  have hne:st≠[]:=by rw[hst];simp
  have H:=Lib.hid h
  have Hst:=Lib.hid hst
  clear h hst
  go_enter Tryz.func79,Tryz.ntmps79
  go_wp2_with (first
    | (go_at_call 110;refine(opens_k 92 88 _ (by decide)).mono ?_;rintro e w' ⟨rfl,rfl⟩)
    | (go_at_call 109;refine(push_r S A n k st _ at_ _ _ (H.out.next (by go_grown)) hl).mono ?_
       rintro e w1 ⟨S1,A1,n1,k1,rfl,hx1,hb1⟩
       have Hx1:=Lib.hid hx1
       clear hx1
       have hz1:=hb1.size
       have hz1:w.heap.size+1<w1.heap.size:=by simp at hz1;omega
       have q1:Below w.heap.size w w1:=below_next (by go_grown) hb1
       have kk1:=Bk.below (cs:=#[.string ⟨#[]⟩,.slice none 0 0,.bool false]) (by first|exact bk_second w _ _ _ _|exact(bk_second w _ _ _ _).drew:Bk _ (w.heap.size+1) 95 _) hb1 (by simp)
       obtain⟨y0,y1,y2,z0,z1,z2⟩:=kk1.three
       have Hb1:=Lib.hid hb1
       clear hb1))
  go_region_with (first
    | (go_at_call 110;refine(opens_k 92 88 _ (by decide)).mono ?_;rintro e w' ⟨rfl,rfl⟩)
    | (go_at_call 109;refine(push_r S A n k st _ at_ _ _ (H.out.next (by go_grown)) hl).mono ?_
       rintro e w1 ⟨S1,A1,n1,k1,rfl,hx1,hb1⟩
       have Hx1:=Lib.hid hx1
       clear hx1
       have hz1:=hb1.size
       have hz1:w.heap.size+1<w1.heap.size:=by simp at hz1;omega
       have q1:Below w.heap.size w w1:=below_next (by go_grown) hb1
       have kk1:=Bk.below (cs:=#[.string ⟨#[]⟩,.slice none 0 0,.bool false]) (by first|exact bk_second w _ _ _ _|exact(bk_second w _ _ _ _).drew:Bk _ (w.heap.size+1) 95 _) hb1 (by simp)
       obtain⟨y0,y1,y2,z0,z1,z2⟩:=kk1.three
       have Hb1:=Lib.hid hb1
       clear hb1))
  all_goals (go_wp2_with (first
    | (go_at_call 110;refine(opens_k 92 88 _ (by decide)).mono ?_;rintro e w' ⟨rfl,rfl⟩)
    | (go_at_call 109;refine(push_r S A n k st _ at_ _ _ (H.out.next (by go_grown)) hl).mono ?_
       rintro e w1 ⟨S1,A1,n1,k1,rfl,hx1,hb1⟩
       have Hx1:=Lib.hid hx1
       clear hx1
       have hz1:=hb1.size
       have hz1:w.heap.size+1<w1.heap.size:=by simp at hz1;omega
       have q1:Below w.heap.size w w1:=below_next (by go_grown) hb1
       have kk1:=Bk.below (cs:=#[.string ⟨#[]⟩,.slice none 0 0,.bool false]) (by first|exact bk_second w _ _ _ _|exact(bk_second w _ _ _ _).drew:Bk _ (w.heap.size+1) 95 _) hb1 (by simp)
       obtain⟨y0,y1,y2,z0,z1,z2⟩:=kk1.three
       have Hb1:=Lib.hid hb1
       clear hb1)))
  all_goals first
  | (refine fin3 kk2 fun F hF hgF x0 x1 x2=>?_
     refine bodyPost_ret (by simp[results,Tryz.results79,go_sem,x0,x1,x2];try rfl) rfl ?_
     refine ro_fin (by omega) Hx2.out q2 kk2 hF hgF ?_ ?_)
  | (refine fin3 kk1 fun F hF hgF x0 x1 x2=>?_
     refine bodyPost_ret (by simp[results,Tryz.results79,go_sem,x0,x1,x2];try rfl) rfl ?_
     refine ro_fin (by omega) Hx1.out q1 kk1 hF hgF ?_ ?_)
  | (go_returns
     refine ro_same H.out (by go_grown) ?_ ?_)
  all_goals go_light
  all_goals try simp only[beq_iff_eq,beq_eq_false_iff_ne,ne_eq] at *
  all_goals unfold rPlain
  all_goals try dsimp only
  all_goals (repeat (first|rw[if_pos (by first|decide|omega|(simp;done)|(simp;omega))]|rw[if_neg (by first|decide|omega|(simp;done)|(simp;omega))]))
  all_goals first|rfl|(simp;done)|(rw[Bool.eq_iff_iff];simp;omega)|(have e:=Hst.out;generalize st.tail=r at *;subst e;rfl)
set_option maxHeartbeats 2000000 in
theorem pl_o36 (S:List UInt8) (A:Option Addr) (n k:Nat) (st:Stk) (f:Bool) (c:UInt8) (at_:Int) (w:World) (h:Rs w S A n k st) (hd:UInt8×Int) (hst:st=hd::st.tail) (hl:st.length≤1000) (hc84:((c.toNat:Int)==84)=false) (hc67:((c.toNat:Int)==67)=false) (hc80:((c.toNat:Int)==80)=false) (hc88:((c.toNat:Int)==88)=false) (hc83:((c.toNat:Int)==83)=false) (hc35:((c.toNat:Int)==35)=false) (hc66:((c.toNat:Int)==66)=false) :
    Calls Tryz.prog 79 #[.agg #[.string ⟨S.toArray⟩,.slice A n k,.bool f],.int .u8 ((c:UInt8).toNat:Int),.int .u8 ((36:UInt8).toNat:Int),.int .i64 at_] w (Ro w (rPlain st f c 36 at_).1 (rPlain st f c 36 at_).2):=by
  have hne:st≠[]:=by rw[hst];simp
  have H:=Lib.hid h
  have Hst:=Lib.hid hst
  clear h hst
  go_enter Tryz.func79,Tryz.ntmps79
  go_wp2_with (first
    | (go_at_call 110;refine(opens_k 36 76 _ (by decide)).mono ?_;rintro e w' ⟨rfl,rfl⟩)
    | (go_at_call 109;refine(push_r S A n k st _ at_ _ _ (H.out.next (by go_grown)) hl).mono ?_
       rintro e w1 ⟨S1,A1,n1,k1,rfl,hx1,hb1⟩
       have Hx1:=Lib.hid hx1
       clear hx1
       have hz1:=hb1.size
       have hz1:w.heap.size+1<w1.heap.size:=by simp at hz1;omega
       have q1:Below w.heap.size w w1:=below_next (by go_grown) hb1
       have kk1:=Bk.below (cs:=#[.string ⟨#[]⟩,.slice none 0 0,.bool false]) (by first|exact bk_second w _ _ _ _|exact(bk_second w _ _ _ _).drew:Bk _ (w.heap.size+1) 95 _) hb1 (by simp)
       obtain⟨y0,y1,y2,z0,z1,z2⟩:=kk1.three
       have Hb1:=Lib.hid hb1
       clear hb1))
  go_region_with (first
    | (go_at_call 110;refine(opens_k 36 76 _ (by decide)).mono ?_;rintro e w' ⟨rfl,rfl⟩)
    | (go_at_call 109;refine(push_r S A n k st _ at_ _ _ (H.out.next (by go_grown)) hl).mono ?_
       rintro e w1 ⟨S1,A1,n1,k1,rfl,hx1,hb1⟩
       have Hx1:=Lib.hid hx1
       clear hx1
       have hz1:=hb1.size
       have hz1:w.heap.size+1<w1.heap.size:=by simp at hz1;omega
       have q1:Below w.heap.size w w1:=below_next (by go_grown) hb1
       have kk1:=Bk.below (cs:=#[.string ⟨#[]⟩,.slice none 0 0,.bool false]) (by first|exact bk_second w _ _ _ _|exact(bk_second w _ _ _ _).drew:Bk _ (w.heap.size+1) 95 _) hb1 (by simp)
       obtain⟨y0,y1,y2,z0,z1,z2⟩:=kk1.three
       have Hb1:=Lib.hid hb1
       clear hb1))
  all_goals (go_wp2_with (first
    | (go_at_call 110;refine(opens_k 36 76 _ (by decide)).mono ?_;rintro e w' ⟨rfl,rfl⟩)
    | (go_at_call 109;refine(push_r S A n k st _ at_ _ _ (H.out.next (by go_grown)) hl).mono ?_
       rintro e w1 ⟨S1,A1,n1,k1,rfl,hx1,hb1⟩
       have Hx1:=Lib.hid hx1
       clear hx1
       have hz1:=hb1.size
       have hz1:w.heap.size+1<w1.heap.size:=by simp at hz1;omega
       have q1:Below w.heap.size w w1:=below_next (by go_grown) hb1
       have kk1:=Bk.below (cs:=#[.string ⟨#[]⟩,.slice none 0 0,.bool false]) (by first|exact bk_second w _ _ _ _|exact(bk_second w _ _ _ _).drew:Bk _ (w.heap.size+1) 95 _) hb1 (by simp)
       obtain⟨y0,y1,y2,z0,z1,z2⟩:=kk1.three
       have Hb1:=Lib.hid hb1
       clear hb1)))
  all_goals first
  | (refine fin3 kk2 fun F hF hgF x0 x1 x2=>?_
     refine bodyPost_ret (by simp[results,Tryz.results79,go_sem,x0,x1,x2];try rfl) rfl ?_
     refine ro_fin (by omega) Hx2.out q2 kk2 hF hgF ?_ ?_)
  | (refine fin3 kk1 fun F hF hgF x0 x1 x2=>?_
     refine bodyPost_ret (by simp[results,Tryz.results79,go_sem,x0,x1,x2];try rfl) rfl ?_
     refine ro_fin (by omega) Hx1.out q1 kk1 hF hgF ?_ ?_)
  | (go_returns
     refine ro_same H.out (by go_grown) ?_ ?_)
  all_goals go_light
  all_goals try simp only[beq_iff_eq,beq_eq_false_iff_ne,ne_eq] at *
  all_goals unfold rPlain
  all_goals try dsimp only
  all_goals (repeat (first|rw[if_pos (by first|decide|omega|(simp;done)|(simp;omega))]|rw[if_neg (by first|decide|omega|(simp;done)|(simp;omega))]))
  all_goals first|rfl|(simp;done)|(rw[Bool.eq_iff_iff];simp;omega)|(have e:=Hst.out;generalize st.tail=r at *;subst e;rfl)
set_option maxHeartbeats 2000000 in
theorem pl_o96 (S:List UInt8) (A:Option Addr) (n k:Nat) (st:Stk) (f:Bool) (c:UInt8) (at_:Int) (w:World) (h:Rs w S A n k st) (hd:UInt8×Int) (hst:st=hd::st.tail) (hl:st.length≤1000) (hc84:((c.toNat:Int)==84)=false) (hc67:((c.toNat:Int)==67)=false) (hc80:((c.toNat:Int)==80)=false) (hc88:((c.toNat:Int)==88)=false) (hc83:((c.toNat:Int)==83)=false) (hc35:((c.toNat:Int)==35)=false) (hc66:((c.toNat:Int)==66)=false) :
    Calls Tryz.prog 79 #[.agg #[.string ⟨S.toArray⟩,.slice A n k,.bool f],.int .u8 ((c:UInt8).toNat:Int),.int .u8 ((96:UInt8).toNat:Int),.int .i64 at_] w (Ro w (rPlain st f c 96 at_).1 (rPlain st f c 96 at_).2):=by
  have hne:st≠[]:=by rw[hst];simp
  have H:=Lib.hid h
  have Hst:=Lib.hid hst
  clear h hst
  go_enter Tryz.func79,Tryz.ntmps79
  go_wp2_with (first
    | (go_at_call 110;refine(opens_k 96 66 _ (by decide)).mono ?_;rintro e w' ⟨rfl,rfl⟩)
    | (go_at_call 109;refine(push_r S A n k st _ at_ _ _ (H.out.next (by go_grown)) hl).mono ?_
       rintro e w1 ⟨S1,A1,n1,k1,rfl,hx1,hb1⟩
       have Hx1:=Lib.hid hx1
       clear hx1
       have hz1:=hb1.size
       have hz1:w.heap.size+1<w1.heap.size:=by simp at hz1;omega
       have q1:Below w.heap.size w w1:=below_next (by go_grown) hb1
       have kk1:=Bk.below (cs:=#[.string ⟨#[]⟩,.slice none 0 0,.bool false]) (by first|exact bk_second w _ _ _ _|exact(bk_second w _ _ _ _).drew:Bk _ (w.heap.size+1) 95 _) hb1 (by simp)
       obtain⟨y0,y1,y2,z0,z1,z2⟩:=kk1.three
       have Hb1:=Lib.hid hb1
       clear hb1))
  go_region_with (first
    | (go_at_call 110;refine(opens_k 96 66 _ (by decide)).mono ?_;rintro e w' ⟨rfl,rfl⟩)
    | (go_at_call 109;refine(push_r S A n k st _ at_ _ _ (H.out.next (by go_grown)) hl).mono ?_
       rintro e w1 ⟨S1,A1,n1,k1,rfl,hx1,hb1⟩
       have Hx1:=Lib.hid hx1
       clear hx1
       have hz1:=hb1.size
       have hz1:w.heap.size+1<w1.heap.size:=by simp at hz1;omega
       have q1:Below w.heap.size w w1:=below_next (by go_grown) hb1
       have kk1:=Bk.below (cs:=#[.string ⟨#[]⟩,.slice none 0 0,.bool false]) (by first|exact bk_second w _ _ _ _|exact(bk_second w _ _ _ _).drew:Bk _ (w.heap.size+1) 95 _) hb1 (by simp)
       obtain⟨y0,y1,y2,z0,z1,z2⟩:=kk1.three
       have Hb1:=Lib.hid hb1
       clear hb1))
  all_goals (go_wp2_with (first
    | (go_at_call 110;refine(opens_k 96 66 _ (by decide)).mono ?_;rintro e w' ⟨rfl,rfl⟩)
    | (go_at_call 109;refine(push_r S A n k st _ at_ _ _ (H.out.next (by go_grown)) hl).mono ?_
       rintro e w1 ⟨S1,A1,n1,k1,rfl,hx1,hb1⟩
       have Hx1:=Lib.hid hx1
       clear hx1
       have hz1:=hb1.size
       have hz1:w.heap.size+1<w1.heap.size:=by simp at hz1;omega
       have q1:Below w.heap.size w w1:=below_next (by go_grown) hb1
       have kk1:=Bk.below (cs:=#[.string ⟨#[]⟩,.slice none 0 0,.bool false]) (by first|exact bk_second w _ _ _ _|exact(bk_second w _ _ _ _).drew:Bk _ (w.heap.size+1) 95 _) hb1 (by simp)
       obtain⟨y0,y1,y2,z0,z1,z2⟩:=kk1.three
       have Hb1:=Lib.hid hb1
       clear hb1)))
  all_goals first
  | (refine fin3 kk2 fun F hF hgF x0 x1 x2=>?_
     refine bodyPost_ret (by simp[results,Tryz.results79,go_sem,x0,x1,x2];try rfl) rfl ?_
     refine ro_fin (by omega) Hx2.out q2 kk2 hF hgF ?_ ?_)
  | (refine fin3 kk1 fun F hF hgF x0 x1 x2=>?_
     refine bodyPost_ret (by simp[results,Tryz.results79,go_sem,x0,x1,x2];try rfl) rfl ?_
     refine ro_fin (by omega) Hx1.out q1 kk1 hF hgF ?_ ?_)
  | (go_returns
     refine ro_same H.out (by go_grown) ?_ ?_)
  all_goals go_light
  all_goals try simp only[beq_iff_eq,beq_eq_false_iff_ne,ne_eq] at *
  all_goals unfold rPlain
  all_goals try dsimp only
  all_goals (repeat (first|rw[if_pos (by first|decide|omega|(simp;done)|(simp;omega))]|rw[if_neg (by first|decide|omega|(simp;done)|(simp;omega))]))
  all_goals first|rfl|(simp;done)|(rw[Bool.eq_iff_iff];simp;omega)|(have e:=Hst.out;generalize st.tail=r at *;subst e;rfl)
set_option maxHeartbeats 2000000 in
theorem pl_88a (S:List UInt8) (A:Option Addr) (n k:Nat) (st:Stk) (f:Bool) (at_:Int) (w:World) (h:Rs w S A n k st) (hd:UInt8×Int) (hst:st=hd::st.tail) (hl:st.length≤1000) :
    Calls Tryz.prog 79 #[.agg #[.string ⟨S.toArray⟩,.slice A n k,.bool f],.int .u8 ((88:UInt8).toNat:Int),.int .u8 ((10:UInt8).toNat:Int),.int .i64 at_] w (Ro w (rPlain st f 88 10 at_).1 (rPlain st f 88 10 at_).2):=by
  have hne:st≠[]:=by rw[hst];simp
  have H:=Lib.hid h
  have Hst:=Lib.hid hst
  clear h hst
  go_enter Tryz.func79,Tryz.ntmps79
  go_wp2_with (first
    | (go_at_call 78;refine(pop_r S A n k st _ _ (H.out.next (by go_grown)) hne hl).mono ?_
       rintro e w1 ⟨S1,A1,n1,k1,rfl,hx1,hb1⟩
       have Hx1:=Lib.hid hx1
       clear hx1
       have hz1:=hb1.size
       have hz1:w.heap.size+1<w1.heap.size:=by simp at hz1;omega
       have q1:Below w.heap.size w w1:=below_next (by go_grown) hb1
       have kk1:=Bk.below (cs:=#[.string ⟨#[]⟩,.slice none 0 0,.bool false]) (by first|exact bk_second w _ _ _ _|exact(bk_second w _ _ _ _).drew:Bk _ (w.heap.size+1) 95 _) hb1 (by simp)
       obtain⟨y0,y1,y2,z0,z1,z2⟩:=kk1.three
       have Hb1:=Lib.hid hb1
       clear hb1
       have bb1:=Bk.below (cs:=#[.string ⟨S.toArray⟩,.slice A n k,.bool f]) (by exact bk_first w _ _ _ _:Bk _ w.heap.size 95 _) Hb1.out (by simp;omega)
       obtain⟨v0,v1,v2,g0,g1,g2⟩:=bb1.three))
  all_goals (refine fin33 bb1 kk1 (by omega) fun F0 F hB0 hg0 hF hgF x0 x1 x2=>?_
             refine bodyPost_ret (by simp[results,Tryz.results79,go_sem,x0,x1,x2];try rfl) rfl ?_
             refine ro_fin (by omega) ⟨Hx1.out.1,Hx1.out.2.1,Hx1.out.2.2.keep hg0 (bb1.row (by decide))⟩ (q1.grown hg0 q1.size (by intro j hj;injection hj with hj;omega)) hB0 hF hgF ?_ ?_)
  all_goals go_light
  all_goals try simp only[beq_iff_eq,beq_eq_false_iff_ne,ne_eq] at *
  all_goals unfold rPlain
  all_goals try dsimp only
  all_goals (repeat (first|rw[if_pos (by first|decide|omega|(simp;done)|(simp;omega))]|rw[if_neg (by first|decide|omega|(simp;done)|(simp;omega))]))
  all_goals first|rfl|(simp;done)|(rw[Bool.eq_iff_iff];simp;omega)|(have e:=Hst.out;generalize st.tail=r at *;subst e;rfl)
set_option maxHeartbeats 2000000 in
theorem pl_88b (S:List UInt8) (A:Option Addr) (n k:Nat) (st:Stk) (f:Bool) (b:UInt8) (at_:Int) (w:World) (h:Rs w S A n k st) (hd:UInt8×Int) (hst:st=hd::st.tail) (hl:st.length≤1000) (hb10:((b.toNat:Int)==10)=false) :
    Calls Tryz.prog 79 #[.agg #[.string ⟨S.toArray⟩,.slice A n k,.bool f],.int .u8 ((88:UInt8).toNat:Int),.int .u8 ((b:UInt8).toNat:Int),.int .i64 at_] w (Ro w (rPlain st f 88 b at_).1 (rPlain st f 88 b at_).2):=by
  have hne:st≠[]:=by rw[hst];simp
  have H:=Lib.hid h
  have Hst:=Lib.hid hst
  clear h hst
  go_enter Tryz.func79,Tryz.ntmps79
  go_wp2_with (first
    | (go_at_call 78;refine(pop_r S A n k st _ _ (H.out.next (by go_grown)) hne hl).mono ?_
       rintro e w1 ⟨S1,A1,n1,k1,rfl,hx1,hb1⟩
       have Hx1:=Lib.hid hx1
       clear hx1
       have hz1:=hb1.size
       have hz1:w.heap.size+1<w1.heap.size:=by simp at hz1;omega
       have q1:Below w.heap.size w w1:=below_next (by go_grown) hb1
       have kk1:=Bk.below (cs:=#[.string ⟨#[]⟩,.slice none 0 0,.bool false]) (by first|exact bk_second w _ _ _ _|exact(bk_second w _ _ _ _).drew:Bk _ (w.heap.size+1) 95 _) hb1 (by simp)
       obtain⟨y0,y1,y2,z0,z1,z2⟩:=kk1.three
       have Hb1:=Lib.hid hb1
       clear hb1
       have bb1:=Bk.below (cs:=#[.string ⟨S.toArray⟩,.slice A n k,.bool f]) (by exact bk_first w _ _ _ _:Bk _ w.heap.size 95 _) Hb1.out (by simp;omega)
       obtain⟨v0,v1,v2,g0,g1,g2⟩:=bb1.three)
    | (go_at_call 76;refine call3 bb1 fun F hF hgF=>?_
       refine(mark_r S1 A1 n1 k1 _ _ _ _ ⟨Hx1.out.1,Hx1.out.2.1,Hx1.out.2.2.keep hgF (bb1.row (by decide))⟩).mono ?_
       rintro e w2 ⟨S2,A2,n2,k2,rfl,hx2,hb2⟩
       have Hx2:=Lib.hid hx2
       clear hx2
       have q2:Below w.heap.size w w2:=(q1.grown hgF q1.size (by intro j hj;injection hj with hj;omega)).trans (hb2.mono (Nat.le_trans q1.size hgF.size))
       have kk2:=(kk1.grown hgF (by simp)).below hb2 (Nat.lt_of_lt_of_le kk1.lt hgF.size)
       have bb2:=hF.below hb2 hF.lt
       obtain⟨y0,y1,y2,z0,z1,z2⟩:=kk2.three
       obtain⟨v0,v1,v2,g0,g1,g2⟩:=bb2.three))
  all_goals (refine fin33 bb2 kk2 (by omega) fun F0 F hB0 hg0 hF hgF x0 x1 x2=>?_
             refine bodyPost_ret (by simp[results,Tryz.results79,go_sem,x0,x1,x2];try rfl) rfl ?_
             refine ro_fin (by omega) ⟨Hx2.out.1,Hx2.out.2.1,Hx2.out.2.2.keep hg0 (bb2.row (by decide))⟩ (q2.grown hg0 q2.size (by intro j hj;injection hj with hj;omega)) hB0 hF hgF ?_ ?_)
  all_goals go_light
  all_goals try simp only[beq_iff_eq,beq_eq_false_iff_ne,ne_eq] at *
  all_goals unfold rPlain
  all_goals try dsimp only
  all_goals (repeat (first|rw[if_pos (by first|decide|omega|(simp;done)|(simp;omega))]|rw[if_neg (by first|decide|omega|(simp;done)|(simp;omega))]))
  all_goals first|rfl|(simp;done)|(rw[Bool.eq_iff_iff];simp;omega)|(have e:=Hst.out;generalize st.tail=r at *;subst e;rfl)
end Go.Proofs.YtnclfgkpcpcapaaGreatDoor
