/- The reference's small functions on a stack of letters (quillwortref06: First, mark, turn, pop, push, opens): each returns what its text says, and leaves what was there as it was. -/
import Derived.Test.YtcagfamdoaoimaaGreatDoorMem
import Derived.Test.YtcagfamdoaoimaaGreatDoorPl6
import Derived.Test.YtcagfamdoaoimaaGreatDoorCls
set_option linter.unusedVariables false
set_option linter.unusedSimpArgs false
set_option maxRecDepth 100000
set_option maxHeartbeats 8000000
namespace Go.Proofs.YtcagfamdoaoimaaGreatDoor
open Go.RowKit
variable {a:Act} {av cs cs' args:Array Value} {f':Bool} {Q R:Ending→World→Prop} {e:Exit} {fn:FuncId} {P:Program} {st':eU} {t:TypeId} {x y z u0 u1 u2 v0 v1 v2 x0 x1 x2 y0 y1 y2:Value} {W w' wx w1 F:World} (S:List UInt8) (A:Option Addr) (n k:Nat) (st:eU) (T:List UInt8) (c d:UInt8) (f:Bool) (b:UInt8) (p:Int) (g:Bool) (at_:Int) (w:World)
theorem LF (f':Bool) (w:World) :
    jL 126 #[.agg #[.string ⟨S.toArray⟩,.slice A n k,.bool f],.bool f'] w (.agg #[.string ⟨S.toArray⟩,.slice A n k,.bool f']):=by
  go_enter Tryz.func126,Tryz.ntmps126;go_wp2;go_returns;refine⟨rfl,?_⟩;go_grown
theorem KX (A:Option Addr) (n m k:Nat) (f:Bool) (w:World) (hS:S.length=n+1) (hn:n≤100000) (hT:T.length≤2) :
    jL 127 #[.agg #[.string ⟨S.toArray⟩,.slice A m k,.bool f],.string ⟨T.toArray⟩] w (.agg #[.string ⟨(S.take n++T).toArray⟩,.slice A m k,.bool f]):=by
  go_enter Tryz.func127,Tryz.ntmps127;go_wp2;go_region;all_goals go_wp2
  all_goals go_returns
  all_goals simp only[dX,gY,dt]
  all_goals refine⟨trivial,?_⟩
  all_goals go_grown
theorem MN (hS:S.length=n+1) (hn:n≤100000) (hk:n+1≤k) (_hk2:k≤maxLen) :
    jL 128 #[.agg #[.string ⟨S.toArray⟩,.slice A (n+1) k,.bool f]] w (.agg #[.string ⟨(S.take n).toArray⟩,.slice A n k,.bool f]):=by
  go_enter Tryz.func128,Tryz.ntmps128;go_wp2;go_region;all_goals go_wp2
  all_goals go_returns
  all_goals simp only[dX,dt]
  all_goals refine⟨trivial,?_⟩
  all_goals go_grown
theorem Cc :
    iG 157 #[.int .u8 (c.toNat:Int)] w (.string ⟨(gj c).toArray⟩):=by
  go_enter Tryz.func157,Tryz.ntmps157;go_wp2;all_goals go_ret
  all_goals simp only[aR,az,ne_eq] at *
  all_goals unfold gj
  all_goals (repeat (first|rw[aD (by omega)]|rw[aB (by omega)]))
  all_goals first|exact⟨rfl,rfl⟩|exact⟨trivial,trivial⟩|simp
theorem jj (h:gj c=[d]) :
    iG 157 #[.int .u8 (c.toNat:Int)] w (.string ⟨[d].toArray⟩):=by
  have:=Cc c w
  rwa [h] at this
theorem Tryz.info3:(Tryz.prog.info? 3).map (fun i=>(i.zero,i.size,i.bytes))=some (some (.int .i64 0),1,8):=by kernel_rfl
theorem Ge {b:Nat} (h:Below W.heap.size W w') (hb:Bk W b t #[x,y,z]) :
    Below W.heap.size W w'∧w'.cell? ⟨b,0,none⟩=some x∧w'.cell? ⟨b,1,none⟩=some y∧w'.cell? ⟨b,2,none⟩=some z:=by
  have h1:=hb.below h hb.lt;exact⟨h,by rw[h1.cell];rfl,by rw[h1.cell];rfl,by rw[h1.cell];rfl⟩
theorem Ll (A:Option Addr) (n k:Nat) (ps:List Int) (at_:Int) (f:Bool) (w:World) (hS:S.length≤100000) (hn:n≤100000) (hT:T.length≤2) (hP:Rt w 3 1 (.slice A n k) n (ps.map (.int .i64))) :
    Calls Tryz.prog 156 #[.agg #[.string ⟨S.toArray⟩,.slice A n k,.bool f],.string ⟨T.toArray⟩,.int .i64 at_] w fun e w'=>
      ∃A' k',e=.returned (.agg #[.string ⟨(S++T).toArray⟩,.slice A' (n+1) k',.bool f])∧Rt w' 3 1 (.slice A' (n+1) k') (n+1) ((ps++[at_]).map (.int .i64))∧Below w.heap.size w w':=by
  obtain⟨i0,hi,hz0,hz1,hz2⟩:=cD Tryz.info3;have hcat:¬(9223372036854775807<S.length+T.length):=by omega
  go_enter Tryz.func156,Tryz.ntmps156;go_wp2;refine Dv fun W hb3 hb1 hb2 hsz=>?_
  have hP1:=hP.rd.next hb3;have hcb:¬w.heap.size+1=w.heap.size:=by omega
  have hbc:¬w.heap.size=w.heap.size+1:=by omega
  have hbc':w.heap.size≤w.heap.size+1:=by omega
  generalize w.heap.size+1=c at *;generalize hbe:w.heap.size=b at *;have hb1l:=hb1.lt;have hb2l:=hb2.lt;have c0:=hb2.cell 0;have c1:=hb2.cell 1;have c2:=hb2.cell 2;have f0:=hb2.frozen 0;have f1:=hb2.frozen 1;have f2:=hb2.frozen 2;simp only[aQ,aN,cC] at c0 c1 c2;have Hb1:=aa hb1;have HP1:=aa hP1;have HBE:=aa hbe;clear hb1 hP1 hP hbe hsz
  go_region_held3 (fun w'=>w'.cell? ⟨b,0,none⟩=some (.string ⟨S.toArray⟩)∧w'.cell? ⟨b,1,none⟩=some (.slice A n k)∧w'.cell? ⟨b,2,none⟩=some (.bool f))
    (first
      | ((refine(Ge ?_ Hb1.out).2);go_grown;done)
      | exact(Ge hbw2 Hb1.out).2
      | exact(Ge hbw1 Hb1.out).2
      | go_keep)
   (first
    | (refine dV rfl (.tmp 11) (.tmp 13) 35 rfl W.heap.size 3 i0 _ 1 8 Tryz.underlying35 hi hz0 hz1 hz2 rfl (by decide) (.slice (some ⟨W.heap.size,0,none⟩) 0 0) 0 [] (by rfl) (World.ownsRow_made _ _ _ (by simp) (by unfold maxLen;omega) (by simp)) (.slice A n k) n W.heap.size (ps.map (.int .i64)) (by rfl) (HP1.out.keep (by go_grown) (au _)) (ml _) (by unfold maxLen;omega) (by omega) (by first|omega|(simp;done)|(simp;omega)) ?_;intro v1 w1 hown1 hg1 hv1;have hbw1:Below W.heap.size W w1:=cQ (by go_grown) hg1 (by first|omega|(simp;done)|(simp;omega)) (by intro k hk;simp[Value.ownBlock] at hk;omega);have hs1:=hbw1.size)
    | (refine dV rfl (.tmp 11) (.tmp 13) 35 rfl W.heap.size 3 i0 _ 1 8 Tryz.underlying35 hi hz0 hz1 hz2 rfl (by decide) (.slice (some ⟨W.heap.size,0,none⟩) 0 0) 0 [] (by rfl) ((World.ownsRow_made _ _ _ (by simp) (by unfold maxLen;omega) (by simp)).alloc _) (.slice A n k) n W.heap.size (ps.map (.int .i64)) (by rfl) (HP1.out.keep (by go_grown) (au _)) (ml _) (by unfold maxLen;omega) (by omega) (by first|omega|(simp;done)|(simp;omega)) ?_;intro v1 w1 hown1 hg1 hv1;have hbw1:Below W.heap.size W w1:=cQ (by go_grown) hg1 (by first|omega|(simp;done)|(simp;omega)) (by intro k hk;simp[Value.ownBlock] at hk;omega);have hs1:=hbw1.size)
    | (refine dV rfl (.tmp 11) (.tmp 13) 35 rfl W.heap.size 3 i0 _ 1 8 Tryz.underlying35 hi hz0 hz1 hz2 rfl (by decide) (.slice (some ⟨W.heap.size+1,0,none⟩) 0 0) 0 [] (by rfl) (fy (by have:=World.ownsRow_made (base:=W.heap.size) (size:=1) (e:=3) (W.alloc (.cells #[.int .i64 at_] 3)) #[] 0 (by simp) (by unfold maxLen;omega) (by simp);simpa using this)) (.slice A n k) n W.heap.size (ps.map (.int .i64)) (by rfl) (HP1.out.keep (by go_grown) (au _)) (ml _) (by unfold maxLen;omega) (by omega) (by first|omega|(simp;done)|(simp;omega)) ?_;intro v1 w1 hown1 hg1 hv1;have hbw1:Below W.heap.size W w1:=cQ (by go_grown) hg1 (by first|omega|(simp;done)|(simp;omega)) (by intro k hk;simp[Value.ownBlock] at hk;omega);have hs1:=hbw1.size)
    | (refine dV rfl (.tmp 14) (.tmp 16) 35 rfl W.heap.size 3 i0 _ 1 8 Tryz.underlying35 hi hz0 hz1 hz2 rfl (by decide) v1 (0+n) ([]++ps.map (.int .i64)) (by rfl) (hown1.alloc _) (.slice (some ⟨w1.heap.size,0,none⟩) 1 1) 1 _ [.int .i64 at_] (by rfl) (fQ _ [.int .i64 at_] _ 1 1 rfl (by omega)) (ml [at_]) (by unfold maxLen;omega) (by omega) (by have:=hbw1.size;first|omega|(simp;done)|(simp;omega)) ?_;intro v2 w2 hown2 hg2 hv2;have hbw2:Below W.heap.size W w2:=cQ (by go_grown) hg2 (by have:=hbw1.size;first|omega|(simp;done)|(simp;omega)) (by intro k hk;rcases hv1 with e|e<;>rw[e] at hk<;>simp[Value.ownBlock] at hk<;>omega);have hs2:=hbw2.size;have hown2':w2.ownsRow W.heap.size 3 1 v2 (n+1) ((ps++[at_]).map (.int .i64)):=by simpa using hown2
       obtain⟨g2',cap2,rfl⟩:=ir hown2';have e0:=(hbw2.cell (p:=⟨c,0,none⟩) hb2l).trans c0;have e1:=(hbw2.cell (p:=⟨c,1,none⟩) hb2l).trans c1;have e2:=(hbw2.cell (p:=⟨c,2,none⟩) hb2l).trans c2;have g0:=(hbw2.frozen (p:=⟨c,0,none⟩) hb2l).trans f0;have g1:=(hbw2.frozen (p:=⟨c,1,none⟩) hb2l).trans f1;have g2:=(hbw2.frozen (p:=⟨c,2,none⟩) hb2l).trans f2)
    | (refine dV rfl (.tmp 14) (.tmp 16) 35 rfl W.heap.size 3 i0 _ 1 8 Tryz.underlying35 hi hz0 hz1 hz2 rfl (by decide) v1 (0+n) ([]++ps.map (.int .i64)) (by rfl) hown1 (.slice (some ⟨W.heap.size+1,0,none⟩) 1 1) 1 (W.heap.size+1+1) [.int .i64 at_] (by rfl) (Rd.grown (Rd.drew (by simpa using fQ (W.alloc (.cells #[] 3)) [.int .i64 at_] 3 1 1 rfl (by omega))) hg1 (by simp[Value.ownBlock])) (ml [at_]) (by unfold maxLen;omega) (by omega) (by have:=hbw1.size;first|omega|(simp;done)|(simp;omega)) ?_;intro v2 w2 hown2 hg2 hv2;have hbw2:Below W.heap.size W w2:=cQ (by go_grown) hg2 (by have:=hbw1.size;first|omega|(simp;done)|(simp;omega)) (by intro k hk;rcases hv1 with e|e<;>rw[e] at hk<;>simp[Value.ownBlock] at hk<;>omega);have hs2:=hbw2.size;have hown2':w2.ownsRow W.heap.size 3 1 v2 (n+1) ((ps++[at_]).map (.int .i64)):=by simpa using hown2
       obtain⟨g2',cap2,rfl⟩:=ir hown2';have e0:=(hbw2.cell (p:=⟨c,0,none⟩) hb2l).trans c0;have e1:=(hbw2.cell (p:=⟨c,1,none⟩) hb2l).trans c1;have e2:=(hbw2.cell (p:=⟨c,2,none⟩) hb2l).trans c2;have g0:=(hbw2.frozen (p:=⟨c,0,none⟩) hb2l).trans f0;have g1:=(hbw2.frozen (p:=⟨c,1,none⟩) hb2l).trans f1;have g2:=(hbw2.frozen (p:=⟨c,2,none⟩) hb2l).trans f2)
    | (refine dV rfl (.tmp 14) (.tmp 16) 35 rfl W.heap.size 3 i0 _ 1 8 Tryz.underlying35 hi hz0 hz1 hz2 rfl (by decide) v1 (0+n) ([]++ps.map (.int .i64)) (by rfl) hown1 (.slice (some ⟨W.heap.size,0,none⟩) 1 1) 1 (W.heap.size+1) [.int .i64 at_] (by rfl) (Rd.grown (Rd.drew (Rd.alloc (fQ W [.int .i64 at_] 3 1 1 rfl (by omega)) (by simp) _)) hg1 (by simp[Value.ownBlock])) (ml [at_]) (by unfold maxLen;omega) (by omega) (by have:=hbw1.size;first|omega|(simp;done)|(simp;omega)) ?_;intro v2 w2 hown2 hg2 hv2;have hbw2:Below W.heap.size W w2:=cQ (by go_grown) hg2 (by have:=hbw1.size;first|omega|(simp;done)|(simp;omega)) (by intro k hk;rcases hv1 with e|e<;>rw[e] at hk<;>simp[Value.ownBlock] at hk<;>omega);have hs2:=hbw2.size;have hown2':w2.ownsRow W.heap.size 3 1 v2 (n+1) ((ps++[at_]).map (.int .i64)):=by simpa using hown2
       obtain⟨g2',cap2,rfl⟩:=ir hown2';have e0:=(hbw2.cell (p:=⟨c,0,none⟩) hb2l).trans c0;have e1:=(hbw2.cell (p:=⟨c,1,none⟩) hb2l).trans c1;have e2:=(hbw2.cell (p:=⟨c,2,none⟩) hb2l).trans c2;have g0:=(hbw2.frozen (p:=⟨c,0,none⟩) hb2l).trans f0;have g1:=(hbw2.frozen (p:=⟨c,1,none⟩) hb2l).trans f1;have g2:=(hbw2.frozen (p:=⟨c,2,none⟩) hb2l).trans f2))
  all_goals go_wp2
  all_goals refine jq (hb2.below hbw2 hb2l) fun F hF hgF x0 x1 x2=>?_
  all_goals refine aK (by simp[results,Tryz.results156,go_sem,x0,x1,x2];try rfl) rfl ?_
  all_goals (
    simp only[gY];refine⟨_,_,rfl,(Rt.of_own hown2').keep hgF ((hb2.below hbw2 hb2l).row (by decide)),?_⟩;rw[HBE.out]
    exact(hb3.trans (hbw2.mono (bq hb1l))).grown hgF (by have:=hb3.size;omega) (by intro k hk;injection hk with hk;omega))
def Rs (w:World) (S:List UInt8) (A:Option Addr) (n k:Nat) (st:eU):Prop:=S=rS st∧n=st.length∧Rt w 3 1 (.slice A n k) n ((rP st).map (.int .i64))
theorem Rs.next {w:World} {S:List UInt8} {A:Option Addr} {n k:Nat} {st:eU} (h:Rs w S A n k st) (hb:Below w.heap.size w w'):Rs w' S A n k st:=⟨h.1,h.2.1,h.2.2.next hb⟩
theorem Rs.len {w:World} {S:List UInt8} {A:Option Addr} {n k:Nat} {st:eU} (h:Rs w S A n k st):S.length=st.length:=by rw[h.1,kw]
def Ro (w:World) (st:eU) (f:Bool) (e:Ending) (w':World):Prop:=
  ∃S A n k,e=.returned (.agg #[.string ⟨S.toArray⟩,.slice A n k,.bool f])∧Rs w' S A n k st∧Below w.heap.size w w'
abbrev sL (fn:FuncId) (S:List UInt8) (A:Option Addr) (n k:Nat) (f:Bool) (b:UInt8) (at_:Int) (w:World) (st':eU) (f':Bool):Prop:=Calls Tryz.prog fn #[.agg #[.string ⟨S.toArray⟩,.slice A n k,.bool f],.int .u8 (b.toNat:Int),.int .i64 at_] w (Ro w st' f')
abbrev uO (fn:FuncId) (S:List UInt8) (A:Option Addr) (n k:Nat) (f:Bool) (c b:UInt8) (at_:Int) (w:World) (st':eU) (f':Bool):Prop:=Calls Tryz.prog fn #[.agg #[.string ⟨S.toArray⟩,.slice A n k,.bool f],.int .u8 (c.toNat:Int),.int .u8 (b.toNat:Int),.int .i64 at_] w (Ro w st' f')
theorem np {st:eU} {f:Bool} (c:Calls Tryz.prog fn av wx (Ro wx st f)) (k:∀w1 S1 A1 n1 k1,Hid (Rs w1 S1 A1 n1 k1 st)→w.heap.size+1<w1.heap.size→Below w.heap.size w w1→Bk w1 (w.heap.size+1) 115 #[.string ⟨#[]⟩,.slice none 0 0,.bool false] →
      w1.cell? ⟨w.heap.size+1,0,none⟩=some (.string ⟨#[]⟩)→w1.cell? ⟨w.heap.size+1,1,none⟩=some (.slice none 0 0)→w1.cell? ⟨w.heap.size+1,2,none⟩=some (.bool false)→w1.frozen? ⟨w.heap.size+1,0,none⟩=false→w1.frozen? ⟨w.heap.size+1,1,none⟩=false→w1.frozen? ⟨w.heap.size+1,2,none⟩=false →
      Hid (Below wx.heap.size wx w1)→Q (.returned (.agg #[.string ⟨S1.toArray⟩,.slice A1 n1 k1,.bool f])) w1) (g:Below w.heap.size w wx:=by go_grown) (b:Bk wx (w.heap.size+1) 115 #[.string ⟨#[]⟩,.slice none 0 0,.bool false]:=by first|exact fH _ _ _ _ _|exact(fH _ _ _ _ _).drew) (z:w.heap.size+1<wx.heap.size:=by simp):Calls Tryz.prog fn av wx Q:=
  c.mono (by
    rintro e w1 ⟨S1,A1,n1,k1,rfl,hx1,hb1⟩;have kk:=b.below hb1 z;obtain⟨y0,y1,y2,z0,z1,z2⟩:=kk.three;exact k w1 S1 A1 n1 k1 (aa hx1) (bA z hb1.size) (jK g hb1) kk y0 y1 y2 z0 z1 z2 (aa hb1))
theorem Mx {w:World} {g:Nat} {st:eU} {f:Bool} (q:Below w.heap.size w w1) (b:Bk w1 g t #[x,y,z]) (c:Calls Tryz.prog fn av w1 (Ro w1 st f)) (k:∀w2 S2 A2 n2 k2,Hid (Rs w2 S2 A2 n2 k2 st)→Below w.heap.size w w2→Bk w2 g t #[x,y,z]→w2.cell? ⟨g,0,none⟩=some x→w2.cell? ⟨g,1,none⟩=some y→w2.cell? ⟨g,2,none⟩=some z→w2.frozen? ⟨g,0,none⟩=false→w2.frozen? ⟨g,1,none⟩=false→w2.frozen? ⟨g,2,none⟩=false →
      Q (.returned (.agg #[.string ⟨S2.toArray⟩,.slice A2 n2 k2,.bool f])) w2):Calls Tryz.prog fn av w1 Q:=
  c.mono (by
    rintro e w2 ⟨S2,A2,n2,k2,rfl,hx2,hb2⟩;have kk:=b.below hb2 b.lt;obtain⟨y0,y1,y2,z0,z1,z2⟩:=kk.three;exact k w2 S2 A2 n2 k2 (aa hx2) (q.trans (hb2.mono q.size)) kk y0 y1 y2 z0 z1 z2)
theorem ja (f:Bool) (w:World) (h:Rs w S A n k st) (hl:st.length≤1000) :
    Calls Tryz.prog 156 #[.agg #[.string ⟨S.toArray⟩,.slice A n k,.bool f],.string ⟨[c].toArray⟩,.int .i64 at_] w (Ro w ((c,at_)::st) f):=by
  have hlen:=h.len;refine(Ll S [c] A n k (rP st) at_ f w (by omega) (by have:=h.2.1;omega) (by simp) h.2.2).mono ?_;rintro e w' ⟨A',k',rfl,hr,hb⟩;exact⟨_,_,_,_,rfl,⟨by rw[ow,h.1],by rw[h.2.1];rfl,by rw[wG];exact hr⟩,hb⟩
theorem nA (f:Bool) (w:World) (h:Rs w S A n k ((d,p)::st)) (hl:st.length≤1000) :
    Calls Tryz.prog 127 #[.agg #[.string ⟨S.toArray⟩,.slice A n k,.bool f],.string ⟨[c].toArray⟩] w (Ro w ((c,p)::st) f):=by
  have hlen:=h.len;refine(KX S [c] A st.length n k f w (by simpa using hlen) (by omega) (by simp)).mono ?_;rintro e w' ⟨rfl,hb⟩;refine⟨_,_,_,_,rfl,⟨by rw[ow,h.1,B4 _ _ _ _ rfl],h.2.1,?_⟩,hb⟩
  have:=h.2.2.next hb
  rw[wG] at this ⊢;exact this
theorem qh (h:Rs w S A n k st) (hne:st≠[]) (hl:st.length≤1000) :
    Calls Tryz.prog 128 #[.agg #[.string ⟨S.toArray⟩,.slice A n k,.bool f]] w (Ro w st.tail f):=by
  match st,hne with
  | (c,p)::r,_=>
    have hlen:=h.len;obtain⟨h1,h2,h3⟩:=h;simp only[aP] at hlen h2 hl;subst h2;have hk:=h3.le;refine(MN S A r.length k f w hlen (by omega) hk.2.1 hk.2.2).mono ?_;rintro e w' ⟨rfl,hb⟩;refine⟨_,_,_,_,rfl,⟨by rw[h1,B4 _ _ _ _ rfl];rfl,rfl,?_⟩,hb⟩
    have:=(h3.next hb).take (k:=r.length) (by omega)
    rw[Nat.mul_one,←List.map_take,I7 _ _ _ _ rfl] at this;exact this
theorem mR (h:Rs w S A n k st) :
    Calls Tryz.prog 126 #[.agg #[.string ⟨S.toArray⟩,.slice A n k,.bool f],.bool g] w (Ro w st g):=by
  refine(LF S A n k f g w).mono ?_;rintro e w' ⟨rfl,hb⟩;exact⟨_,_,_,_,rfl,h.next hb,hb⟩
theorem gh {w:World} {c:Nat} {S:List UInt8} {A:Option Addr} {n k:Nat} {f:Bool} {st:eU} (hc:w.heap.size≤c) (hx:Rs W S A n k st') (hb:Below w.heap.size w W) (hk:Bk W c 115 cs) (_hF:Bk F c 115 cs') (hg:W.grownBy F (some c)) (hs:st'=st) (hf:f'=f):Ro w st f (.returned (.agg #[.string ⟨S.toArray⟩,.slice A n k,.bool f'])) F:=by
  subst hs hf;refine⟨_,_,_,_,rfl,⟨hx.1,hx.2.1,hx.2.2.keep hg (hk.row (by decide))⟩,hb.grown hg hb.size (by intro j hj;injection hj with hj;omega)⟩
theorem BB:b=92∨b=39∨b=34∨b=96∨b=36∨b=35∨b=40∨b=41∨(((b.toNat:Int)==92)=false∧((b.toNat:Int)==39)=false∧((b.toNat:Int)==34)=false∧((b.toNat:Int)==96)=false∧((b.toNat:Int)==36)=false∧((b.toNat:Int)==35)=false∧((b.toNat:Int)==40)=false∧((b.toNat:Int)==41)=false):=by
  have:=fg (fun b=>b==92||b==39||b==34||b==96||b==36||b==35||b==40||b==41||(((b.toNat:Int)==92)==false&&((b.toNat:Int)==39)==false&&((b.toNat:Int)==34)==false&&((b.toNat:Int)==96)==false&&((b.toNat:Int)==36)==false&&((b.toNat:Int)==35)==false&&((b.toNat:Int)==40)==false&&((b.toNat:Int)==41)==false)) (by decide +kernel) b
  simpa [or_assoc,and_assoc] using this
theorem Ce (h:gj c=[]) :
    iG 157 #[.int .u8 (c.toNat:Int)] w (.string ⟨#[]⟩):=by
  have:=Cc c w
  rwa [h] at this
theorem jh {w:World} {S:List UInt8} {A:Option Addr} {n k:Nat} {f:Bool} {st:eU} (hx:Rs w S A n k st') (hb:Below w.heap.size w F) (hs:st'=st) (hf:f'=f) :
    Ro w st f (.returned (.agg #[.string ⟨S.toArray⟩,.slice A n k,.bool f'])) F:=by
  subst hs hf;exact⟨_,_,_,_,rfl,hx.next hb,hb⟩
theorem CH {f:FuncId} {w:World} {c:Nat} (hb:Bk w c t #[u0,u1,u2]) (h:∀F,Bk F c t #[v0,v1,v2]→w.grownBy F (some c)→Calls P f args F Q) :
    Calls P f args (((w.setCell ⟨c,0,none⟩ v0).setCell ⟨c,1,none⟩ v1).setCell ⟨c,2,none⟩ v2) Q:=by
  have hF:Bk (((w.setCell ⟨c,0,none⟩ v0).setCell ⟨c,1,none⟩ v1).setCell ⟨c,2,none⟩ v2) c t #[v0,v1,v2]:=by simpa using ((hb.set 0 v0).set 1 v1).set 2 v2
  exact h _ hF (ef (ef (ef (fD _ _) _ _) _ _) _ _)
theorem iy (cs1 cs2:Array Value) (t1 t2:TypeId):Bk ((w.alloc (.cells cs1 t1)).alloc (.cells cs2 t2)) w.heap.size t1 cs1:=(Bk.new w t1 cs1).alloc _
theorem GE {fn:Func} {w:World} {c d:Nat} (hb:Bk w c t #[u0,u1,u2]) (hd:Bk w d t #[x0,x1,x2]) (hne:d≠c) (h:∀F0 F,Bk F0 d t #[x0,x1,x2]→w.grownBy F0 (some c)→Bk F d t #[y0,y1,y2]→F0.grownBy F (some d)→F.cell? ⟨d,0,none⟩=some y0→F.cell? ⟨d,1,none⟩=some y1→F.cell? ⟨d,2,none⟩=some y2→bodyPost P fn R e a F) :
    bodyPost P fn R e a ((((((w.setCell ⟨c,0,none⟩ v0).setCell ⟨c,1,none⟩ v1).setCell ⟨c,2,none⟩ v2).setCell ⟨d,0,none⟩ y0).setCell ⟨d,1,none⟩ y1).setCell ⟨d,2,none⟩ y2):=by
  have hg:w.grownBy (((w.setCell ⟨c,0,none⟩ v0).setCell ⟨c,1,none⟩ v1).setCell ⟨c,2,none⟩ v2) (some c):=ef (ef (ef (fD _ _) _ _) _ _) _ _;have hd0:=hd.grown hg (by simpa using hne);exact jq hd0 fun F hF hgF z0 z1 z2=>h _ F hd0 hg hF hgF z0 z1 z2
theorem kQ :
    iG 140 #[.int .u8 (c.toNat:Int)] w (.bool (gR c)):=by
  go_enter Tryz.func140,Tryz.ntmps140;go_wp2_with (go_at_call 85;refine(gK _ _).mono ?_;rintro e w' ⟨rfl,rfl⟩);all_goals go_ret
  all_goals refine⟨jT ?_,by first|rfl|trivial⟩
  all_goals (show _=gR c)
  all_goals go_light
  all_goals try simp only[aR,az,ne_eq] at *
  all_goals unfold gR
  all_goals (rw[bB];first|(simp_all;done)|(simp;omega)|omega)
theorem rm (c b:UInt8) (at_:Int) (w:World) (h:Rs w S A n k st) (hne:st≠[]) (hl:st.length≤1000) :
    uO 155 S A n k f c b at_ w (dU st f c b at_).1 (dU st f c b at_).2:=by
  have H:=aa h;clear h;rcases BB b with rfl|rfl|rfl|rfl|rfl|rfl|rfl|rfl|⟨h92,h39,h34,h96,h36,h35,h40,h41⟩
  case' inr.inr.inr.inr.inr.inl=>cases f
  all_goals (
    go_enter Tryz.func155,Tryz.ntmps155;go_wp2_with (first
    | (go_at_call 156;refine np w (ja S A n k st _ at_ _ _ (H.out.next (by go_grown)) hl) fun w1 S1 A1 n1 k1 Hx1 hz1 q1 kk1 y0 y1 y2 z0 z1 z2 Hb1=>?_)
    | (go_at_call 128;refine np w (qh S A n k st _ _ (H.out.next (by go_grown)) hne hl) fun w1 S1 A1 n1 k1 Hx1 hz1 q1 kk1 y0 y1 y2 z0 z1 z2 Hb1=>?_)
    | (go_at_call 126;refine Mx q1 kk1 (mR S1 A1 n1 k1 _ _ _ _ Hx1.out) fun w2 S2 A2 n2 k2 Hx2 q2 kk2 y0 y1 y2 z0 z1 z2=>?_)
    | (go_at_call 126;refine np w (mR S A n k st _ _ _ (H.out.next (by go_grown))) fun w1 S1 A1 n1 k1 Hx1 hz1 q1 kk1 y0 y1 y2 z0 z1 z2 Hb1=>?_)
    | (go_at_call 140;refine(kQ b _).mono ?_;rintro e w' ⟨rfl,rfl⟩)
    | (go_at_call 140;refine(kQ 35 _).mono ?_;rintro e w' ⟨rfl,rfl⟩))
    try (
     go_region_with (first
    | (go_at_call 156;refine np w (ja S A n k st _ at_ _ _ (H.out.next (by go_grown)) hl) fun w1 S1 A1 n1 k1 Hx1 hz1 q1 kk1 y0 y1 y2 z0 z1 z2 Hb1=>?_)
    | (go_at_call 126;refine Mx q1 kk1 (mR S1 A1 n1 k1 _ _ _ _ Hx1.out) fun w2 S2 A2 n2 k2 Hx2 q2 kk2 y0 y1 y2 z0 z1 z2=>?_)
    | (go_at_call 126;refine np w (mR S A n k st _ _ _ (H.out.next (by go_grown))) fun w1 S1 A1 n1 k1 Hx1 hz1 q1 kk1 y0 y1 y2 z0 z1 z2 Hb1=>?_)
    | (go_at_call 140;refine(kQ b _).mono ?_;rintro e w' ⟨rfl,rfl⟩)
    | (go_at_call 140;refine(kQ 35 _).mono ?_;rintro e w' ⟨rfl,rfl⟩)
    | (go_at_call 157;refine(jj 96 66 _ (by decide)).mono ?_;rintro e w' ⟨rfl,rfl⟩)
    | (go_at_call 157;refine(jj 36 76 _ (by decide)).mono ?_;rintro e w' ⟨rfl,rfl⟩))
     all_goals (go_wp2_with (first
    | (go_at_call 156;refine np w (ja S A n k st _ at_ _ _ (H.out.next (by go_grown)) hl) fun w1 S1 A1 n1 k1 Hx1 hz1 q1 kk1 y0 y1 y2 z0 z1 z2 Hb1=>?_)
    | (go_at_call 126;refine Mx q1 kk1 (mR S1 A1 n1 k1 _ _ _ _ Hx1.out) fun w2 S2 A2 n2 k2 Hx2 q2 kk2 y0 y1 y2 z0 z1 z2=>?_))))
    all_goals first
    | (refine jq kk2 fun F hF hgF x0 x1 x2=>?_
       refine aK (by simp[results,Tryz.results155,go_sem,x0,x1,x2];try rfl) rfl ?_;refine gh (by omega) Hx2.out q2 kk2 hF hgF ?_ ?_)
    | (refine jq kk1 fun F hF hgF x0 x1 x2=>?_
       refine aK (by simp[results,Tryz.results155,go_sem,x0,x1,x2];try rfl) rfl ?_;refine gh (by omega) Hx1.out q1 kk1 hF hgF ?_ ?_)
    | (go_returns;refine jh H.out (by go_grown) ?_ ?_)
    all_goals go_light
    all_goals try simp only[aR,az,ne_eq] at *
    all_goals unfold dU
    all_goals try dsimp only
    all_goals (repeat (first|rw[aD (by first|decide|omega|(simp;done)|(simp;omega))]|rw[aB (by first|decide|omega|(simp;done)|(simp;omega))]))
    all_goals first|rfl|(simp;done)|(rw[bB];simp;omega)|(have e:=Hst.out;generalize st.tail=r at *;subst e;rfl)
    )
def vX (c b:UInt8):Prop:=∀(S:List UInt8) (A:Option Addr) (n k:Nat) (st:eU) (f:Bool) (at_:Int) (w:World),Rs w S A n k st→∀hd:UInt8×Int,st=hd::st.tail→st.length≤1000 →
    uO 129 S A n k f c b at_ w (dL st f c b at_).1 (dL st f c b at_).2
theorem tL:(vX 83 39) ∧
    (∀(b:UInt8),((b.toNat:Int)==39)=false→vX 83 b) ∧
    (vX 35 10) ∧
    (∀(b:UInt8),((b.toNat:Int)==10)=false→vX 35 b) ∧
    (vX 66 96) ∧
    (vX 66 92) ∧
    (∀(b:UInt8),((b.toNat:Int)==96)=false→((b.toNat:Int)==92)=false→vX 66 b):=by
  refine⟨?_,?_,?_,?_,?_,?_,?_⟩;all_goals intros
  all_goals (
    intro S A n k st f at_ w h hd hst hl;have hne:st≠[]:=by rw[hst];simp
    have H:=aa h;have Hst:=aa hst;clear h hst;go_enter Tryz.func129,Tryz.ntmps129
    go_wp2_with (first
      | (go_at_call 128;refine np w (qh S A n k st _ _ (H.out.next (by go_grown)) hne hl) fun w1 S1 A1 n1 k1 Hx1 hz1 q1 kk1 y0 y1 y2 z0 z1 z2 Hb1=>?_)
      | (go_at_call 126;refine Mx q1 kk1 (mR S1 A1 n1 k1 _ _ _ _ Hx1.out) fun w2 S2 A2 n2 k2 Hx2 q2 kk2 y0 y1 y2 z0 z1 z2=>?_)
      | (go_at_call 156;refine np w (ja S A n k st _ at_ _ _ (H.out.next (by go_grown)) hl) fun w1 S1 A1 n1 k1 Hx1 hz1 q1 kk1 y0 y1 y2 z0 z1 z2 Hb1=>?_))
    all_goals first
    | (refine jq kk2 fun F hF hgF x0 x1 x2=>?_
       refine aK (by simp[results,Tryz.results129,go_sem,x0,x1,x2];try rfl) rfl ?_;refine gh (by omega) Hx2.out q2 kk2 hF hgF ?_ ?_)
    | (refine jq kk1 fun F hF hgF x0 x1 x2=>?_
       refine aK (by simp[results,Tryz.results129,go_sem,x0,x1,x2];try rfl) rfl ?_;refine gh (by omega) Hx1.out q1 kk1 hF hgF ?_ ?_)
    | (go_returns;refine jh H.out (by go_grown) ?_ ?_)
    all_goals go_light
    all_goals try simp only[aR,az,ne_eq] at *
    all_goals unfold dL
    all_goals try dsimp only
    all_goals (repeat (first|rw[aD (by first|decide|omega|(simp;done)|(simp;omega))]|rw[aB (by first|decide|omega|(simp;done)|(simp;omega))]))
    all_goals first|rfl|(simp;done)|(rw[bB];simp;omega)|(have e:=Hst.out;generalize st.tail=r at *;subst e;rfl))
theorem vz:(gj 40=[]→vX 65 40) ∧
    (gj 41=[]→vX 65 41) ∧
    (∀(b:UInt8),((b.toNat:Int)==92)=false→((b.toNat:Int)==36)=false→((b.toNat:Int)==96)=false→((b.toNat:Int)==40)=false→((b.toNat:Int)==41)=false→gj b=[]→vX 65 b) ∧
    (gj 40=[]→vX 82 40) ∧
    (gj 41=[]→vX 82 41) ∧
    (∀(b:UInt8),((b.toNat:Int)==92)=false→((b.toNat:Int)==36)=false→((b.toNat:Int)==96)=false→((b.toNat:Int)==40)=false→((b.toNat:Int)==41)=false→gj b=[]→vX 82 b):=by
  refine⟨?_,?_,?_,?_,?_,?_⟩;all_goals intros
  all_goals rename_i ho
  all_goals have Ho:=aa ho
  all_goals clear ho
  all_goals (
    intro S A n k st f at_ w h hd hst hl;have hne:st≠[]:=by rw[hst];simp
    have H:=aa h;have Hst:=aa hst;clear h hst;go_enter Tryz.func129,Tryz.ntmps129
    go_wp2_with (first
      | (go_at_call 157;refine(Ce _ _ Ho.out).mono ?_;rintro e w' ⟨rfl,rfl⟩)
      | (go_at_call 156;refine np w (ja S A n k st _ at_ _ _ (H.out.next (by go_grown)) hl) fun w1 S1 A1 n1 k1 Hx1 hz1 q1 kk1 y0 y1 y2 z0 z1 z2 Hb1=>?_)
      | (go_at_call 128;refine np w (qh S A n k st _ _ (H.out.next (by go_grown)) hne hl) fun w1 S1 A1 n1 k1 Hx1 hz1 q1 kk1 y0 y1 y2 z0 z1 z2 Hb1=>?_)
      | (go_at_call 127;refine np w (nA S A n k st.tail _ hd.1 hd.2 _ _ (by rw[←Hst.out];exact H.out.next (by go_grown)) (by rw[List.length_tail];omega)) fun w1 S1 A1 n1 k1 Hx1 hz1 q1 kk1 y0 y1 y2 z0 z1 z2 Hb1=>?_))
    all_goals first
    | (refine jq kk2 fun F hF hgF x0 x1 x2=>?_
       refine aK (by simp[results,Tryz.results129,go_sem,x0,x1,x2];try rfl) rfl ?_;refine gh (by omega) Hx2.out q2 kk2 hF hgF ?_ ?_)
    | (refine jq kk1 fun F hF hgF x0 x1 x2=>?_
       refine aK (by simp[results,Tryz.results129,go_sem,x0,x1,x2];try rfl) rfl ?_;refine gh (by omega) Hx1.out q1 kk1 hF hgF ?_ ?_)
    | (go_returns;refine jh H.out (by go_grown) ?_ ?_)
    all_goals go_light
    all_goals try simp only[aR,az,ne_eq] at *
    all_goals unfold dL
    all_goals try dsimp only
    all_goals (repeat (first|rw[aD (by first|decide|omega|(simp;done)|(simp;omega))]|rw[aB (by first|decide|omega|(simp;done)|(simp;omega))]))
    all_goals first|rfl|(simp;done)|(rw[bB];simp;omega)|(have e:=Hst.out;generalize st.tail=r at *;subst e;rfl))
theorem oW:(gj 34=[]→vX 68 34) ∧
    (∀(b:UInt8),((b.toNat:Int)==92)=false→((b.toNat:Int)==36)=false→((b.toNat:Int)==96)=false→((b.toNat:Int)==34)=false→gj b=[]→vX 68 b) ∧
    (∀(c:UInt8),((c.toNat:Int)==84)=false→((c.toNat:Int)==67)=false→((c.toNat:Int)==80)=false→((c.toNat:Int)==88)=false→((c.toNat:Int)==83)=false→((c.toNat:Int)==35)=false→((c.toNat:Int)==66)=false→((c.toNat:Int)==65)=false→((c.toNat:Int)==82)=false→((c.toNat:Int)==68)=false→gj 34=[]→vX c 34) ∧
    (∀(c:UInt8),((c.toNat:Int)==84)=false→((c.toNat:Int)==67)=false→((c.toNat:Int)==80)=false→((c.toNat:Int)==88)=false→((c.toNat:Int)==83)=false→((c.toNat:Int)==35)=false→((c.toNat:Int)==66)=false→((c.toNat:Int)==65)=false→((c.toNat:Int)==82)=false→((c.toNat:Int)==68)=false→gj 125=[]→vX c 125) ∧
    (gj 39=[]→vX 86 39) ∧
    (∀(c:UInt8),((c.toNat:Int)==84)=false→((c.toNat:Int)==67)=false→((c.toNat:Int)==80)=false→((c.toNat:Int)==88)=false→((c.toNat:Int)==83)=false→((c.toNat:Int)==35)=false→((c.toNat:Int)==66)=false→((c.toNat:Int)==65)=false→((c.toNat:Int)==82)=false→((c.toNat:Int)==68)=false→((c.toNat:Int)==86)=false→gj 39=[]→vX c 39) ∧
    (∀(c b:UInt8),((c.toNat:Int)==84)=false→((c.toNat:Int)==67)=false→((c.toNat:Int)==80)=false→((c.toNat:Int)==88)=false→((c.toNat:Int)==83)=false→((c.toNat:Int)==35)=false→((c.toNat:Int)==66)=false→((c.toNat:Int)==65)=false→((c.toNat:Int)==82)=false→((c.toNat:Int)==68)=false→((b.toNat:Int)==92)=false→((b.toNat:Int)==36)=false→((b.toNat:Int)==96)=false→((b.toNat:Int)==34)=false→((b.toNat:Int)==125)=false→((b.toNat:Int)==39)=false→gj b=[]→vX c b):=by
  refine⟨?_,?_,?_,?_,?_,?_,?_⟩;all_goals intros
  all_goals rename_i ho
  all_goals have Ho:=aa ho
  all_goals clear ho
  all_goals (
    intro S A n k st f at_ w h hd hst hl;have hne:st≠[]:=by rw[hst];simp
    have H:=aa h;have Hst:=aa hst;clear h hst;go_enter Tryz.func129,Tryz.ntmps129
    go_wp2_with (first
      | (go_at_call 157;refine(Ce _ _ Ho.out).mono ?_;rintro e w' ⟨rfl,rfl⟩)
      | (go_at_call 128;refine np w (qh S A n k st _ _ (H.out.next (by go_grown)) hne hl) fun w1 S1 A1 n1 k1 Hx1 hz1 q1 kk1 y0 y1 y2 z0 z1 z2 Hb1=>?_)
      | (go_at_call 156;refine np w (ja S A n k st _ at_ _ _ (H.out.next (by go_grown)) hl) fun w1 S1 A1 n1 k1 Hx1 hz1 q1 kk1 y0 y1 y2 z0 z1 z2 Hb1=>?_))
    all_goals first
    | (refine jq kk2 fun F hF hgF x0 x1 x2=>?_
       refine aK (by simp[results,Tryz.results129,go_sem,x0,x1,x2];try rfl) rfl ?_;refine gh (by omega) Hx2.out q2 kk2 hF hgF ?_ ?_)
    | (refine jq kk1 fun F hF hgF x0 x1 x2=>?_
       refine aK (by simp[results,Tryz.results129,go_sem,x0,x1,x2];try rfl) rfl ?_;refine gh (by omega) Hx1.out q1 kk1 hF hgF ?_ ?_)
    | (go_returns;refine jh H.out (by go_grown) ?_ ?_)
    all_goals go_light
    all_goals try simp only[aR,az,ne_eq] at *
    all_goals unfold dL
    all_goals try dsimp only
    all_goals (repeat (first|rw[aD (by first|decide|omega|(simp;done)|(simp;omega))]|rw[aB (by first|decide|omega|(simp;done)|(simp;omega))]))
    all_goals first|rfl|(simp;done)|(rw[bB];simp;omega)|(have e:=Hst.out;generalize st.tail=r at *;subst e;rfl))
theorem tM :
    (∀(S:List UInt8) (A:Option Addr) (n k:Nat) (st:eU) (f:Bool) (b:UInt8) (at_:Int) (w:World) (h:Rs w S A n k st) (hd:UInt8×Int) (hst:st=hd::st.tail) (hl:st.length≤1000),uO 129 S A n k f 84 b at_ w (dL st f 84 b at_).1 (dL st f 84 b at_).2) ∧
    (∀(S:List UInt8) (A:Option Addr) (n k:Nat) (st:eU) (f:Bool) (b:UInt8) (at_:Int) (w:World) (h:Rs w S A n k st) (hd:UInt8×Int) (hst:st=hd::st.tail) (hl:st.length≤1000),uO 129 S A n k f 67 b at_ w (dL st f 67 b at_).1 (dL st f 67 b at_).2) ∧
    (∀(S:List UInt8) (A:Option Addr) (n k:Nat) (st:eU) (f:Bool) (b:UInt8) (at_:Int) (w:World) (h:Rs w S A n k st) (hd:UInt8×Int) (hst:st=hd::st.tail) (hl:st.length≤1000),uO 129 S A n k f 80 b at_ w (dL st f 80 b at_).1 (dL st f 80 b at_).2) ∧
    (∀(S:List UInt8) (A:Option Addr) (n k:Nat) (st:eU) (f:Bool) (c:UInt8) (at_:Int) (w:World) (h:Rs w S A n k st) (hd:UInt8×Int) (hst:st=hd::st.tail) (hl:st.length≤1000) (hc84:((c.toNat:Int)==84)=false) (hc67:((c.toNat:Int)==67)=false) (hc80:((c.toNat:Int)==80)=false) (hc88:((c.toNat:Int)==88)=false) (hc83:((c.toNat:Int)==83)=false) (hc35:((c.toNat:Int)==35)=false) (hc66:((c.toNat:Int)==66)=false),uO 129 S A n k f c 92 at_ w (dL st f c 92 at_).1 (dL st f c 92 at_).2) ∧
    (∀(S:List UInt8) (A:Option Addr) (n k:Nat) (st:eU) (f:Bool) (c:UInt8) (at_:Int) (w:World) (h:Rs w S A n k st) (hd:UInt8×Int) (hst:st=hd::st.tail) (hl:st.length≤1000) (hc84:((c.toNat:Int)==84)=false) (hc67:((c.toNat:Int)==67)=false) (hc80:((c.toNat:Int)==80)=false) (hc88:((c.toNat:Int)==88)=false) (hc83:((c.toNat:Int)==83)=false) (hc35:((c.toNat:Int)==35)=false) (hc66:((c.toNat:Int)==66)=false),uO 129 S A n k f c 36 at_ w (dL st f c 36 at_).1 (dL st f c 36 at_).2):=by
  refine⟨fun S A n k st f b at_ w h hd hst hl=>?c0,fun S A n k st f b at_ w h hd hst hl=>?c1,fun S A n k st f b at_ w h hd hst hl=>?c2,fun S A n k st f c at_ w h hd hst hl hc84 hc67 hc80 hc88 hc83 hc35 hc66=>?c3,fun S A n k st f c at_ w h hd hst hl hc84 hc67 hc80 hc88 hc83 hc35 hc66=>?c4⟩
  case' c0=>
    have hne:st≠[]:=by rw[hst];simp
    have H:=aa h;have Hst:=aa hst;clear h hst;go_enter Tryz.func129,Tryz.ntmps129
    go_wp2_with (first
      | (go_at_call 155;refine np w (rm S A n k st f 84 b at_ _ (H.out.next (by go_grown)) hne hl) fun w1 S1 A1 n1 k1 Hx1 hz1 q1 kk1 y0 y1 y2 z0 z1 z2 Hb1=>?_))
  case' c1=>
    have hne:st≠[]:=by rw[hst];simp
    have H:=aa h;have Hst:=aa hst;clear h hst;go_enter Tryz.func129,Tryz.ntmps129
    go_wp2_with (first
      | (go_at_call 155;refine np w (rm S A n k st f 67 b at_ _ (H.out.next (by go_grown)) hne hl) fun w1 S1 A1 n1 k1 Hx1 hz1 q1 kk1 y0 y1 y2 z0 z1 z2 Hb1=>?_))
  case' c2=>
    have hne:st≠[]:=by rw[hst];simp
    have H:=aa h;have Hst:=aa hst;clear h hst;go_enter Tryz.func129,Tryz.ntmps129
    go_wp2_with (first
      | (go_at_call 155;refine np w (rm S A n k st f 80 b at_ _ (H.out.next (by go_grown)) hne hl) fun w1 S1 A1 n1 k1 Hx1 hz1 q1 kk1 y0 y1 y2 z0 z1 z2 Hb1=>?_))
  case' c3=>
    have hne:st≠[]:=by rw[hst];simp
    have H:=aa h;have Hst:=aa hst;clear h hst;go_enter Tryz.func129,Tryz.ntmps129
    go_wp2_with (first
      | (go_at_call 157;refine(jj 92 88 _ (by decide)).mono ?_;rintro e w' ⟨rfl,rfl⟩)
      | (go_at_call 156;refine np w (ja S A n k st _ at_ _ _ (H.out.next (by go_grown)) hl) fun w1 S1 A1 n1 k1 Hx1 hz1 q1 kk1 y0 y1 y2 z0 z1 z2 Hb1=>?_))
    go_region_with (first
      | (go_at_call 157;refine(jj 92 88 _ (by decide)).mono ?_;rintro e w' ⟨rfl,rfl⟩)
      | (go_at_call 156;refine np w (ja S A n k st _ at_ _ _ (H.out.next (by go_grown)) hl) fun w1 S1 A1 n1 k1 Hx1 hz1 q1 kk1 y0 y1 y2 z0 z1 z2 Hb1=>?_))
    all_goals (go_wp2_with (first
      | (go_at_call 157;refine(jj 92 88 _ (by decide)).mono ?_;rintro e w' ⟨rfl,rfl⟩)
      | (go_at_call 156;refine np w (ja S A n k st _ at_ _ _ (H.out.next (by go_grown)) hl) fun w1 S1 A1 n1 k1 Hx1 hz1 q1 kk1 y0 y1 y2 z0 z1 z2 Hb1=>?_)))
  case' c4=>
    have hne:st≠[]:=by rw[hst];simp
    have H:=aa h;have Hst:=aa hst;clear h hst;go_enter Tryz.func129,Tryz.ntmps129
    go_wp2_with (first
      | (go_at_call 157;refine(jj 36 76 _ (by decide)).mono ?_;rintro e w' ⟨rfl,rfl⟩)
      | (go_at_call 156;refine np w (ja S A n k st _ at_ _ _ (H.out.next (by go_grown)) hl) fun w1 S1 A1 n1 k1 Hx1 hz1 q1 kk1 y0 y1 y2 z0 z1 z2 Hb1=>?_))
    go_region_with (first
      | (go_at_call 157;refine(jj 36 76 _ (by decide)).mono ?_;rintro e w' ⟨rfl,rfl⟩)
      | (go_at_call 156;refine np w (ja S A n k st _ at_ _ _ (H.out.next (by go_grown)) hl) fun w1 S1 A1 n1 k1 Hx1 hz1 q1 kk1 y0 y1 y2 z0 z1 z2 Hb1=>?_))
    all_goals (go_wp2_with (first
      | (go_at_call 157;refine(jj 36 76 _ (by decide)).mono ?_;rintro e w' ⟨rfl,rfl⟩)
      | (go_at_call 156;refine np w (ja S A n k st _ at_ _ _ (H.out.next (by go_grown)) hl) fun w1 S1 A1 n1 k1 Hx1 hz1 q1 kk1 y0 y1 y2 z0 z1 z2 Hb1=>?_)))
  all_goals (
    all_goals first
    | (refine jq kk2 fun F hF hgF x0 x1 x2=>?_
       refine aK (by simp[results,Tryz.results129,go_sem,x0,x1,x2];try rfl) rfl ?_;refine gh (by omega) Hx2.out q2 kk2 hF hgF ?_ ?_)
    | (refine jq kk1 fun F hF hgF x0 x1 x2=>?_
       refine aK (by simp[results,Tryz.results129,go_sem,x0,x1,x2];try rfl) rfl ?_;refine gh (by omega) Hx1.out q1 kk1 hF hgF ?_ ?_)
    | (go_returns;refine jh H.out (by go_grown) ?_ ?_)
    all_goals go_light
    all_goals try simp only[aR,az,ne_eq] at *
    all_goals unfold dL
    all_goals try dsimp only
    all_goals (repeat (first|rw[aD (by first|decide|omega|(simp;done)|(simp;omega))]|rw[aB (by first|decide|omega|(simp;done)|(simp;omega))]))
    all_goals first|rfl|(simp;done)|(rw[bB];simp;omega)|(have e:=Hst.out;generalize st.tail=r at *;subst e;rfl))
abbrev MY:=tM.1
abbrev M5:=tM.2.1
abbrev MZ:=tM.2.2.1
abbrev tJ:=tM.2.2.2.1
abbrev tK:=tM.2.2.2.2
theorem tI (c:UInt8) (at_:Int) (w:World) (h:Rs w S A n k st) (hd:UInt8×Int) (hst:st=hd::st.tail) (hl:st.length≤1000) (hc84:((c.toNat:Int)==84)=false) (hc67:((c.toNat:Int)==67)=false) (hc80:((c.toNat:Int)==80)=false) (hc88:((c.toNat:Int)==88)=false) (hc83:((c.toNat:Int)==83)=false) (hc35:((c.toNat:Int)==35)=false) (hc66:((c.toNat:Int)==66)=false) :
    uO 129 S A n k f c 96 at_ w (dL st f c 96 at_).1 (dL st f c 96 at_).2:=by
  have hne:st≠[]:=by rw[hst];simp
  have H:=aa h;have Hst:=aa hst;clear h hst;go_enter Tryz.func129,Tryz.ntmps129
  go_wp2_with (first
    | (go_at_call 157;refine(jj 96 66 _ (by decide)).mono ?_;rintro e w' ⟨rfl,rfl⟩)
    | (go_at_call 156;refine np w (ja S A n k st _ at_ _ _ (H.out.next (by go_grown)) hl) fun w1 S1 A1 n1 k1 Hx1 hz1 q1 kk1 y0 y1 y2 z0 z1 z2 Hb1=>?_))
  go_region_with (first
    | (go_at_call 157;refine(jj 96 66 _ (by decide)).mono ?_;rintro e w' ⟨rfl,rfl⟩)
    | (go_at_call 156;refine np w (ja S A n k st _ at_ _ _ (H.out.next (by go_grown)) hl) fun w1 S1 A1 n1 k1 Hx1 hz1 q1 kk1 y0 y1 y2 z0 z1 z2 Hb1=>?_))
  all_goals (go_wp2_with (first
    | (go_at_call 157;refine(jj 96 66 _ (by decide)).mono ?_;rintro e w' ⟨rfl,rfl⟩)
    | (go_at_call 156;refine np w (ja S A n k st _ at_ _ _ (H.out.next (by go_grown)) hl) fun w1 S1 A1 n1 k1 Hx1 hz1 q1 kk1 y0 y1 y2 z0 z1 z2 Hb1=>?_)))
  all_goals first
  | (refine jq kk2 fun F hF hgF x0 x1 x2=>?_
     refine aK (by simp[results,Tryz.results129,go_sem,x0,x1,x2];try rfl) rfl ?_;refine gh (by omega) Hx2.out q2 kk2 hF hgF ?_ ?_)
  | (refine jq kk1 fun F hF hgF x0 x1 x2=>?_
     refine aK (by simp[results,Tryz.results129,go_sem,x0,x1,x2];try rfl) rfl ?_;refine gh (by omega) Hx1.out q1 kk1 hF hgF ?_ ?_)
  | (go_returns;refine jh H.out (by go_grown) ?_ ?_)
  all_goals go_light
  all_goals try simp only[aR,az,ne_eq] at *
  all_goals unfold dL
  all_goals try dsimp only
  all_goals (repeat (first|rw[aD (by first|decide|omega|(simp;done)|(simp;omega))]|rw[aB (by first|decide|omega|(simp;done)|(simp;omega))]))
  all_goals first|rfl|(simp;done)|(rw[bB];simp;omega)|(have e:=Hst.out;generalize st.tail=r at *;subst e;rfl)
theorem Lq (h:Rs w S A n k st) (hd:UInt8×Int) (hst:st=hd::st.tail) (hl:st.length≤1000) :
    uO 129 S A n k f 88 10 at_ w (dL st f 88 10 at_).1 (dL st f 88 10 at_).2:=by
  have hne:st≠[]:=by rw[hst];simp
  have H:=aa h;have Hst:=aa hst;clear h hst;go_enter Tryz.func129,Tryz.ntmps129
  go_wp2_with (first
    | (go_at_call 128;refine np w (qh S A n k st _ _ (H.out.next (by go_grown)) hne hl) fun w1 S1 A1 n1 k1 Hx1 hz1 q1 kk1 y0 y1 y2 z0 z1 z2 Hb1=>?_
       have bb1:=Bk.below (cs:=#[.string ⟨S.toArray⟩,.slice A n k,.bool f]) (by exact iy w _ _ _ _:Bk _ w.heap.size 115 _) Hb1.out (by simp;omega);obtain⟨v0,v1,v2,g0,g1,g2⟩:=bb1.three))
  all_goals (refine GE bb1 kk1 (by omega) fun F0 F hB0 hg0 hF hgF x0 x1 x2=>?_
             refine aK (by simp[results,Tryz.results129,go_sem,x0,x1,x2];try rfl) rfl ?_;refine gh (by omega) ⟨Hx1.out.1,Hx1.out.2.1,Hx1.out.2.2.keep hg0 (bb1.row (by decide))⟩ (q1.grown hg0 q1.size (by intro j hj;injection hj with hj;omega)) hB0 hF hgF ?_ ?_)
  all_goals go_light
  all_goals try simp only[aR,az,ne_eq] at *
  all_goals unfold dL
  all_goals try dsimp only
  all_goals (repeat (first|rw[aD (by first|decide|omega|(simp;done)|(simp;omega))]|rw[aB (by first|decide|omega|(simp;done)|(simp;omega))]))
  all_goals first|rfl|(simp;done)|(rw[bB];simp;omega)|(have e:=Hst.out;generalize st.tail=r at *;subst e;rfl)
theorem Lp (h:Rs w S A n k st) (hd:UInt8×Int) (hst:st=hd::st.tail) (hl:st.length≤1000) (hb10:((b.toNat:Int)==10)=false) :
    uO 129 S A n k f 88 b at_ w (dL st f 88 b at_).1 (dL st f 88 b at_).2:=by
  have hne:st≠[]:=by rw[hst];simp
  have H:=aa h;have Hst:=aa hst;clear h hst;go_enter Tryz.func129,Tryz.ntmps129
  go_wp2_with (first
    | (go_at_call 128;refine np w (qh S A n k st _ _ (H.out.next (by go_grown)) hne hl) fun w1 S1 A1 n1 k1 Hx1 hz1 q1 kk1 y0 y1 y2 z0 z1 z2 Hb1=>?_
       have bb1:=Bk.below (cs:=#[.string ⟨S.toArray⟩,.slice A n k,.bool f]) (by exact iy w _ _ _ _:Bk _ w.heap.size 115 _) Hb1.out (by simp;omega);obtain⟨v0,v1,v2,g0,g1,g2⟩:=bb1.three)
    | (go_at_call 126;refine CH bb1 fun F hF hgF=>?_
       refine(mR S1 A1 n1 k1 _ _ _ _ ⟨Hx1.out.1,Hx1.out.2.1,Hx1.out.2.2.keep hgF (bb1.row (by decide))⟩).mono ?_;rintro e w2 ⟨S2,A2,n2,k2,rfl,hx2,hb2⟩;have Hx2:=aa hx2;clear hx2;have q2:Below w.heap.size w w2:=(q1.grown hgF q1.size (by intro j hj;injection hj with hj;omega)).trans (hb2.mono (aA q1.size hgF.size));have kk2:=(kk1.grown hgF (by simp)).below hb2 (bA kk1.lt hgF.size);have bb2:=hF.below hb2 hF.lt;obtain⟨y0,y1,y2,z0,z1,z2⟩:=kk2.three;obtain⟨v0,v1,v2,g0,g1,g2⟩:=bb2.three))
  all_goals (refine GE bb2 kk2 (by omega) fun F0 F hB0 hg0 hF hgF x0 x1 x2=>?_
             refine aK (by simp[results,Tryz.results129,go_sem,x0,x1,x2];try rfl) rfl ?_;refine gh (by omega) ⟨Hx2.out.1,Hx2.out.2.1,Hx2.out.2.2.keep hg0 (bb2.row (by decide))⟩ (q2.grown hg0 q2.size (by intro j hj;injection hj with hj;omega)) hB0 hF hgF ?_ ?_)
  all_goals go_light
  all_goals try simp only[aR,az,ne_eq] at *
  all_goals unfold dL
  all_goals try dsimp only
  all_goals (repeat (first|rw[aD (by first|decide|omega|(simp;done)|(simp;omega))]|rw[aB (by first|decide|omega|(simp;done)|(simp;omega))]))
  all_goals first|rfl|(simp;done)|(rw[bB];simp;omega)|(have e:=Hst.out;generalize st.tail=r at *;subst e;rfl)
end Go.Proofs.YtcagfamdoaoimaaGreatDoor
