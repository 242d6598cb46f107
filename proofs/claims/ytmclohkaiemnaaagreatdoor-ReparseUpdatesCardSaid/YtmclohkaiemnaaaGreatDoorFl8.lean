/- literal's reader: a text with its parts, and a map from places to the numbers of the parts that begin there. -/
import Derived.Test.YtmclohkaiemnaaaGreatDoorLa9
import Derived.Test.YtmclohkaiemnaaaGreatDoorRfy
import Derived.Maps.Own
import Derived.Maps.OwnOps
import Derived.Maps.Views
import Derived.IntWalk
import Derived.BigQuiet
import Derived.Deep.DeepCutAuto
import Derived.Deep.CutBlock
set_option linter.unusedVariables false
set_option linter.unusedSimpArgs false
set_option maxRecDepth 100000
set_option maxHeartbeats 8000000
namespace Go.Proofs.YtmclohkaiemnaaaGreatDoor
open Go.RowKit
variable {J J':(Nat→Prop)→List Pc→World→Prop} {pre pre':List Pc} {L:List fP} {r buf buf':List UInt8} {b k n₀ c m n₁ p y l':Nat} {X Y Xc:Nat→Prop} {A:Option Addr} {q:fP} {a e v v':Value} {w w' W W':World} (u:Int) (x t n:Nat) (l:List UInt8) (o:Bool)
def vW (L:List fP) (x:Int):Nat→Int
  | 0=>0
  | k+1=>if (L.getD k dP).fr=x then (k:Int)+1 else vW L x k
theorem uQ {L:List fP} {x:Nat} (h:jX L x=none):∀k,k≤L.length→vW L (x:Int) k=0
  | 0,_=>rfl
  | k+1,hk=>by
    unfold vW;have h1:=dQ.1 h L[k] (List.getElem_mem (by omega));have e:L.getD k dP=L[k]:=getD_some (ax (by omega));rw[e,aC (by simpa using h1)];exact uQ h k (by omega)
theorem BF {L:List fP} (hr:(iE L).Pairwise (· < ·)) {i:Nat} {q:fP} (hi:L[i]? = some q):∀k,i<k→k≤L.length→vW L q.fr k=(i:Int)+1
  | 0,h,_=>by omega
  | k+1,h,hk=>by
    unfold vW;have hlt:k<L.length:=by omega
    have e:L.getD k dP=L[k]:=getD_some (ax hlt);rw[e];by_cases hik:k=i
    ·subst hik
     have:L[k]=q:=by obtain⟨_,h2⟩:=az.1 hi;exact h2
     rw[this,aB rfl]
    ·have h2:=(IT hr (i:=k) (k:=i) (ax hlt) hi).1 (by omega);rw[aC (by omega)];exact BF hr hi k (by omega) (by omega)
theorem Gf (hr:(iE L).Pairwise (· < ·)) {x:Nat} (h:jX L x=some q):∃i:Nat,L[i]? = some q∧vW L (x:Int) L.length=(i:Int)+1:=by
  have h1:=List.mem_of_find?_eq_some h;have h2:q.fr=x:=by have:=List.find?_some h;simpa using this
  obtain⟨i,hi⟩:=List.mem_iff_getElem?.1 h1;refine⟨i,hi,?_⟩;rw[←h2];exact BF hr hi _ (az.1 hi).1 (au _)
def MP (w:World) (b:Nat) (L:List fP) (k:Nat):Prop:=∃D:DataW Unit,w.ownsMap Tryz.prog 3 (plainElem Tryz.prog 3) b k D∧Maps.IsMap D∧∀x:Int,D.atKey (.int .i64 x) (.lit (.int .i64 0))=.lit (.int .i64 (vW L x k))
theorem Ad (hl:l.length≤900):∀q∈eQ l,0≤q.fr∧q.fr≤100000:=by
  intro q hq;obtain⟨f,t,h1,h2,h3,h4,_⟩:=x9 hq;omega
theorem vC {a:Int} (h0 : -100000≤a) (h1:a≤100000):(Lit.int .i64 a).wf=true:=WalkArith.wf_i64 (by omega)
theorem MP.made (w:World) (L:List fP):MP (w.alloc (.map #[] 0)) w.heap.size L 0:=
  ⟨.map [],World.ownsMap_made w _ _ _,⟨[],rfl⟩,fun x=>rfl⟩
theorem MP.put (h:MP w b L k) (hq:L[k]? = some q) (hL:L.length≤100000) (h0:0≤q.fr) (h1:q.fr≤100000) :
    ∃w',(Instr.mapUpdate 44 (.map (some b)) (.int .i64 q.fr) (.int .i64 ((k:Int)+1))).run Tryz.prog w=.ok () w'∧MP w' b L (k+1)∧w.grownBy w' (some b):=by
  obtain⟨D,hD,hm,hat⟩:=h;have hk:=(az.1 hq).1;obtain⟨w',hrun,hown,hg⟩:=hD.update (Maps.int_keyed Tryz.underlying3) Tryz.underlying44 (by unfold maxLen;omega) (Maps.keyOf_int_mk Tryz.underlying3 (vC (by omega) h1)) (plainElem_int Tryz.underlying3 (vC (a:=(k:Int)+1) (by omega) (by omega)));refine⟨w',hrun,⟨_,hown,hm.put _ _,fun x=>?_⟩,hg⟩;have e:L.getD k dP=q:=getD_some hq;unfold vW;rw[e];by_cases hx:q.fr=x
  ·subst hx;rw[aB rfl,Maps.atKey_put_same hm (by trivial)]
  ·rw[aC hx,Maps.atKey_put_other (by intro h;injection h with _ h;exact hx h.symm)];exact hat x
theorem MP.look (h:MP w b L k) {x:Int} (h0 : -100000≤x) (h1:x≤100000) :
    (Instr.lookup 44 (.map (some b)) (.int .i64 x) false).run Tryz.prog w=.ok (.int .i64 (vW L x k)) w:=by
  obtain⟨D,hD,hm,hat⟩:=h;obtain⟨c,hrun,hc,_⟩:=hD.lookup_int (Maps.int_keyed Tryz.underlying3) Tryz.underlying44 Tryz.underlying3 (by kernel_rfl) (Maps.keyOf_int_mk Tryz.underlying3 (vC h0 h1));rw[hat x] at hc;injection hc with hc
  injection hc with _ hc
  rw[hrun,hc]
theorem MP.kept (h:MP w b L k) (hb:w'.heap[b]? = w.heap[b]?):MP w' b L k:=by
  obtain⟨D,⟨es,clock,h1,h2⟩,hm,hat⟩:=h;exact⟨D,⟨es,clock,hb.trans h1,h2⟩,hm,hat⟩
theorem MP.lt (h:MP w b L k):b<w.heap.size:=by
  obtain⟨D,hD,_⟩:=h;exact hD.lt
structure uD (w:World) (n₀:Nat) (X:Nat→Prop) (b:Nat) (l:List UInt8) (A:Option Addr) (c m:Nat):Prop where
  hd:Bk w b 183 #[.string ⟨l.toArray⟩,.slice A (eQ l).length c,.map (some m)]
  row:w.ownsRow 0 185 5 (.slice A (eQ l).length c) (eQ l).length (gL (eQ l))
  mp:MP w m (eQ l) (eQ l).length
  bn:b<n₀∧¬X b
  mn:m<n₀∧¬X m
  rn:∀k,(Value.slice A (eQ l).length c).ownBlock=some k→k<n₀∧¬X k
theorem uD.keep {l:List UInt8} (h:uD w n₀ X b l A c m) (hk:fi n₀ X w w'):uD w' n₀ X b l A c m:=by
  refine⟨(hk.same b h.bn.1 h.bn.2).trans h.hd,⟨h.row.1,?_⟩,h.mp.kept (hk.same m h.mn.1 h.mn.2),h.bn,h.mn,h.rn⟩;rcases h.row.2 with h2|⟨g,cap,cur,he,hg,hh,r⟩
  ·exact .inl h2
  ·have hg2:=h.rn g (by rw[he];rfl);exact .inr ⟨g,cap,cur,he,hg,(hk.same g hg2.1 hg2.2).trans hh,r⟩
theorem uD.below {l:List UInt8} (h:uD w n₀ X b l A c m) (hb:Below w.heap.size w w') (hn:n₀≤w.heap.size):uD w' n₀ X b l A c m:=h.keep (fi.of_below hb hn)
def MK (o:Option fP):Value:=match o with
  | none=>.tuple #[.agg #[.int .i64 0,.int .i64 0,.int .i64 0,.int .i64 0,.bool false],.bool false]
  | some q=>.tuple #[.agg #[.int .i64 q.mode,.int .i64 q.fr,.int .i64 (Bm q),.int .i64 q.up,.bool q.op],.bool true]
theorem OA (w:World) (n₀ b c m x:Nat) (X:Nat→Prop) (l:List UInt8) (A:Option Addr) (hl:l.length≤900) (hx:x≤1000) (h:uD w n₀ X b l A c m) (hn:n₀≤w.heap.size) :
    jJ 166 #[.pointer (some ⟨b,0,none⟩),.int .i64 (x:Int)] w (MK (jX (eQ l) x)):=by
  have hpl:=uU l;have hw1:Below w.heap.size w (w.alloc (.cells #[.int .i64 0,.int .i64 0,.int .i64 0,.int .i64 0,.bool false] 185)):=br (ay _ _) (au _) _;have h1:=h.below hw1 hn;have y2:(w.alloc (.cells #[.int .i64 0,.int .i64 0,.int .i64 0,.int .i64 0,.bool false] 185)).cell? ⟨b,2,none⟩=some (.map (some m)):=by rw[h1.hd.cell];rfl
  have y1:(w.alloc (.cells #[.int .i64 0,.int .i64 0,.int .i64 0,.int .i64 0,.bool false] 185)).cell? ⟨b,1,none⟩=some (.slice A (eQ l).length c):=by rw[h1.hd.cell];rfl
  have hlk:=h1.mp.look (x:=(x:Int)) (by omega) (by omega)
  cases hf:jX (eQ l) x with
  | none=>
    rw[uQ hf _ (au _)] at hlk;have H:=ac (ae hf hlk);clear hf hlk;go_enter Tryz.func166,Tryz.ntmps166;go_wp2_with fail;rw[H.out.2];go_wp2_with fail;exact bu (v:=MK none) (by simp[results,Tryz.results166,go_sem,MK]) rfl ⟨rfl,br (ay _ _) (au _) _⟩
  | some q=>
    obtain⟨i,hi,hp⟩:=Gf (Aa l) hf;rw[hp] at hlk;have hiL:=(az.1 hi).1;obtain⟨g,rfl⟩:=mP h1.row (by omega);obtain⟨x0,x1,x2,x3,x4⟩:=uS h1.row hi;have v1:(i:Int)<((eQ l).length:Int):=by omega
    have v2:(0:Int)≤(i:Int):=by omega
    have t1:((i:Int)+1==0)=false:=by rw[aK];omega
    have H:=ac (ae hf (ae hlk hp));clear hf hlk hp hi;go_enter Tryz.func166,Tryz.ntmps166;go_wp2_with fail;rw[H.out.2.1];go_wp2_with fail;exact bu (v:=MK (some q)) (by simp[results,Tryz.results166,go_sem,MK]) rfl ⟨rfl,br (ay _ _) (au _) _⟩
theorem MP.alloc (h:MP w b L k) (o:Obj):MP (w.alloc o) b L k:=h.kept (dK w o b h.lt)
theorem MP.drew (h:MP w b L k):MP w.drew b L k:=h
theorem MP.below (h:MP w b L k) (hb:Below w.heap.size w w'):MP w' b L k:=h.kept (hb.block b h.lt)
theorem LN (w:World) (l:List UInt8) (hl:l.length≤900) :
    Calls Tryz.prog 137 #[.string ⟨l.toArray⟩] w fun e w'=>∃(b c m:Nat) (A:Option Addr),e=.returned (.pointer (some ⟨b,0,none⟩))∧uD w' w'.heap.size (fun k=>k<w.heap.size) b l A c m∧Below w.heap.size w w':=by
  have hpl:=uU l;have hbd:=Ad l hl;obtain⟨L,hL⟩:∃L,L=eQ l:=⟨_,rfl⟩;rw[←hL] at hpl hbd;have HL:=ac (ae hL hbd);clear hL hbd;go_enter Tryz.func137,Tryz.ntmps137;go_wp2_with (
    (go_at_call 163;refine(Ow l _ (by omega)).mono ?_;rintro e w2 ⟨v,rfl,ho,hb2⟩;rw[←HL.out.1] at ho;obtain⟨A,n,c,rfl⟩:=eA ho;obtain rfl:=ff ho;have H:=ac (ae ho hb2);clear ho hb2))
  rw[run_makeMap];go_wp2_with fail;obtain⟨W0,hW0⟩:∃W0,(w2.alloc (.map #[] 0)).alloc (.cells #[.string ⟨l.toArray⟩,.slice A L.length c,.map (some w2.heap.size)] 183)=W0:=⟨_,rfl⟩;have hmp0:MP W0 w2.heap.size L 0:=by rw[←hW0];exact(MP.made w2 L).alloc _
  have hbk0:Bk W0 (w2.heap.size+1) 183 #[.string ⟨l.toArray⟩,.slice A L.length c,.map (some w2.heap.size)]:=by
    rw[←hW0];have:=Bk.new (w2.alloc (.map #[] 0)) 183 #[.string ⟨l.toArray⟩,.slice A L.length c,.map (some w2.heap.size)];rwa [bc] at this
  have hb0:Below w2.heap.size w2 W0:=by rw[←hW0];exact((ay _ w2).alloc (au _) _).alloc (by simp) _
  have hs0:W0.heap.size=w2.heap.size+2:=by rw[←hW0];simp
  rw[hW0];have HW:=ac (ae hmp0 (ae hbk0 (ae hb0 hs0)));clear hW0 hmp0 hbk0 hb0 hs0;go_loopw [17] (fun i wr=>∃k:Nat,k≤L.length∧i=.int .i64 k∧MP wr w2.heap.size L k∧Bk wr (w2.heap.size+1) 183 #[.string ⟨l.toArray⟩,.slice A L.length c,.map (some w2.heap.size)]∧Below w2.heap.size w2 wr) (fun i _=>L.length-(intOf i).toNat)
  case atStart=>exact⟨0,by omega,rfl,HW.out.1,HW.out.2.1,HW.out.2.2.1⟩
  case round=>
    obtain⟨k,hk,rfl,hmp,hbk,hb⟩:=hrel;by_cases hlt:k<L.length
    ·have u1:(k:Int)<(L.length:Int):=by omega
     have u2:(0:Int)≤(k:Int):=by omega
     have u3:IntKind.i64.wrap ((k:Int)+1)=(k:Int)+1:=aO _ (by omega);obtain⟨q,hq⟩:∃q,L[k]? = some q:=⟨_,ax hlt⟩;have ho:=eC H.out.1 hb;obtain⟨g,rfl⟩:=mP ho (by omega);obtain⟨y0,y1,y2,y3,y4⟩:=uS ho hq;obtain⟨b0,b1⟩:=HL.out.2 q (aI hq);have z2:wr.cell? ⟨w2.heap.size+1,2,none⟩=some (.map (some w2.heap.size)):=by rw[hbk.cell];rfl
     have hbl:=hbk.lt;have hnew:Below wr.heap.size wr (wr.alloc (.cells #[.int .i64 q.mode,.int .i64 q.fr,.int .i64 (Bm q),.int .i64 q.up,.bool q.op] 185)):=br (ay _ _) (au _) _;obtain⟨w7,hrun7,hmp7,hg7⟩:=(hmp.below hnew).drew.put hq (by omega) b0 b1;have z3:(wr.alloc (.cells #[.int .i64 q.mode,.int .i64 q.fr,.int .i64 (Bm q),.int .i64 q.up,.bool q.op] 185)).cell? ⟨w2.heap.size+1,2,none⟩=some (.map (some w2.heap.size)):=(hnew.cell (p:=⟨w2.heap.size+1,2,none⟩) hbl).trans z2;have HQ:=ac (ae hmp7 (ae hg7 (ae hrun7 (ae hbk (ae hb hnew)))));clear hmp7 hg7 hrun7 hbk hb hnew hmp hq ho z2;go_wp2_with fail;have hrun7:=HQ.out.2.2.1;go_region;all_goals (
       clear u3 hrun7;go_wp2_with fail;obtain⟨hmp7,hg7,_,hbk,hb,hnew⟩:=HQ.out;exact⟨⟨k+1,by omega,by go_num,hmp7,((hbk.below hnew hbk.lt).drew).grown hg7 (by simp),((hb.trans (hnew.mono hb.size)).drew).grown hg7 (by have:=hb.size;simp;omega) (by intro j hj;injection hj with hj;omega)⟩,by simp[intOf];omega⟩)
    ·obtain rfl:k=L.length:=by omega
     have HQ:=ac (ae hmp (ae hbk hb));clear hmp hbk hb;go_wp2_with fail;go_ret;obtain⟨hmp,hbk,hb⟩:=HQ.out;obtain⟨ho,hb2⟩:=H.out;refine⟨_,c,w2.heap.size,A,rfl,⟨?_,?_,?_,⟨hbk.lt,by have:=hb2.size;simp;omega⟩,⟨hmp.lt,by have:=hb2.size;simp;omega⟩,?_⟩,hb2.trans (hb.mono hb2.size)⟩
     ·rw[←HL.out.1];exact hbk
     ·rw[←HL.out.1];exact iW (eC ho hb) (bq _)
     ·rw[←HL.out.1];exact hmp
     ·rw[←HL.out.1];intro j hj;have h1:=ho.lt j hj
      have:=hb.size
      exact⟨by omega,by simp;omega⟩
theorem uD.weak {l:List UInt8} (h:uD w n₀ X b l A c m) (hX:∀k,Y k→X k) (hn:n₀≤n₁):uD w n₁ Y b l A c m:=
  ⟨h.hd,h.row,h.mp,⟨by have:=h.bn.1;omega,fun hy=>h.bn.2 (hX _ hy)⟩,⟨by have:=h.mn.1;omega,fun hy=>h.mn.2 (hX _ hy)⟩,fun k hk=>⟨by have:=(h.rn k hk).1;omega,fun hy=>(h.rn k hk).2 (hX _ hy)⟩⟩
def AS (o:Option fP) (x:Nat):Value:=match o with
  | none=>.tuple #[.agg #[.int .i64 0,.int .i64 0,.int .i64 0,.int .i64 0,.bool false],.bool false]
  | some q=>.tuple #[.agg #[.int .i64 q.mode,.int .i64 (x:Int),.int .i64 (fF q:Int),.int .i64 q.up,.bool q.op],.bool true]
theorem sG (w:World) (n₀ b c m x:Nat) (X:Nat→Prop) (l:List UInt8) (A:Option Addr) (hl:l.length≤900) (hx:x≤1000) (h:uD w n₀ X b l A c m) (hn:n₀≤w.heap.size) :
    jJ 166 #[.pointer (some ⟨b,0,none⟩),.int .i64 (x:Int)] w (AS (jX (eQ l) x) x):=by
  have e:AS (jX (eQ l) x) x=MK (jX (eQ l) x):=by
    cases hf:jX (eQ l) x with
    | none=>rfl
    | some q=>
      obtain⟨_,h1,h2,_⟩:=jq (nF l) hf;unfold AS MK Bm;simp only[h1];rw[←h2]
  rw[e];exact OA w n₀ b c m x X l A hl hx h hn
theorem lZ (m u:Int) (x t:Nat) (o:Bool) (w:World) (hx:x≤1000) (ht:t≤1000) :
    jJ 167 #[.agg #[.int .i64 m,.int .i64 (x:Int),.int .i64 (t:Int),.int .i64 u,.bool o]] w (.bool (decide (m=12∧t=x+1))):=by
  by_cases hm:m=12
  ·have t1:(m==12)=true:=by simpa using hm
   by_cases hx1:t=x+1
   ·have t2:((t:Int)==(x:Int)+1)=true:=by rw[bA];omega
    rw[aG (show m=12∧t=x+1 from ⟨hm,hx1⟩)];clear hm hx1;go_enter Tryz.func167,Tryz.ntmps167;go_wp2_with fail;go_ret;exact⟨rfl,br (ay _ _) (au _) _⟩
   ·have t2:((t:Int)==(x:Int)+1)=false:=by rw[aK];omega
    rw[aE (show ¬(m=12∧t=x+1) from fun h=>hx1 h.2)];clear hm hx1;go_enter Tryz.func167,Tryz.ntmps167;go_wp2_with fail;go_ret;exact⟨rfl,br (ay _ _) (au _) _⟩
  ·have t1:(m==12)=false:=by simpa using hm
   rw[aE (show ¬(m=12∧t=x+1) from fun h=>hm h.1)];clear hm;go_enter Tryz.func167,Tryz.ntmps167;go_wp2_with fail;go_ret;exact⟨rfl,br (ay _ _) (au _) _⟩
theorem IV {l:List UInt8} {a:Nat} (h:sub l a b=r):Ending.returned (.string ((ByteArray.mk l.toArray).extract a b))=.returned (.string ⟨r.toArray⟩):=by rw[fq];unfold sub at h;rw[h]
theorem qF (W:World) (g:Nat) (d:UInt8) (hg:W.heap.size=g) :
    (Go.convert 149 9 (.slice (some ⟨g,0,none⟩) 1 1)).run Tryz.prog (W.alloc (.cells #[.int .u8 (d.toNat:Int)] 5))=.ok (.string ⟨[d].toArray⟩) (W.alloc (.cells #[.int .u8 (d.toNat:Int)] 5)):=by
  subst hg;refine run_convert_bytes_back (P:=Tryz.prog) _ 149 9 5 ⟨W.heap.size,0,none⟩ 1 [d] Tryz.underlying149 Tryz.underlying5 Tryz.underlying9 ?_;intro j hj;obtain rfl:j=0:=by simpa using hj
  rw[Addr.add_lit,dv,Bk.cell (Bk.new W _ _)];rfl
theorem Dc (m u:Int) (x t:Nat) (o:Bool) (w:World) (n₀ b c mm:Nat) (X:Nat→Prop) (l:List UInt8) (A:Option Addr) (hl:l.length≤900) (h:uD w n₀ X b l A c mm) (hn:n₀≤w.heap.size) (hx:x<t) (ht:t≤l.length) (ht2:t≤x+2) (q:fP) (hq:fF q=t) :
    jJ 197 #[.pointer (some ⟨b,0,none⟩),.agg #[.int .i64 m,.int .i64 (x:Int),.int .i64 (t:Int),.int .i64 u,.bool o]] w (.string ⟨(oT l q x).toArray⟩):=by
  obtain⟨R,hR⟩:∃R,R=oT l q x:=⟨_,rfl⟩;rw[←hR];unfold oT at hR;rw[hq] at hR;have hw1:Below w.heap.size w (w.alloc (.cells #[.int .i64 m,.int .i64 (x:Int),.int .i64 (t:Int),.int .i64 u,.bool o] 185)):=br (ay _ _) (au _) _;have h1:=h.below hw1 hn;have y0:(w.alloc (.cells #[.int .i64 m,.int .i64 (x:Int),.int .i64 (t:Int),.int .i64 u,.bool o] 185)).cell? ⟨b,0,none⟩=some (.string ⟨l.toArray⟩):=by rw[h1.hd.cell];rfl
  by_cases h22:t<x+2
  ·rw[aB h22] at hR;subst hR;have t1:(t:Int)-(x:Int)<2:=by omega
   go_enter Tryz.func197,Tryz.ntmps197;go_wp2_with fail;go_ret;exact⟨rfl,hw1⟩
  ·rw[aC h22] at hR;have htx:t=x+2:=by omega
   have HT:=ac htx;have t0:¬((t:Int)-(x:Int)<2):=by omega
   have t00:(x:Int)≤(t:Int):=by omega
   have t01:(t:Int)≤(l.length:Int):=by omega
   obtain⟨d,hd⟩:∃d,l[x+1]? = some d:=⟨_,ax (by omega)⟩;have hgd:l.getD (x+1) 0=d:=by rw[aF,hd];rfl
   rw[hgd] at hR;obtain⟨hb1,hb2⟩:=az.1 hd;have hL:∃h:x+1<(ByteArray.mk l.toArray).size,(ByteArray.mk l.toArray)[x+1]'h=d:=⟨hb1,hb2⟩;obtain⟨hL1,hL2⟩:=hL;have k1:(x:Int)+1<(l.length:Int):=by omega
   have k2:(0:Int)≤(x:Int)+1:=by omega
   have k3:((x:Int)+1).toNat=x+1:=by omega
   have k4:IntKind.i64.wrap ((x:Int)+1)=(x:Int)+1:=aO _ (by omega);have hR':=ac hR;clear hR hd hgd hb2 htx;by_cases hs:J3 d=true
   ·have hc:d.toNat=36∨d.toNat=96∨d.toNat=34∨d.toNat=92:=by unfold J3 at hs;simp at hs;omega
    have hR2:R=[d]:=by have:=hR'.out;rwa [aB hs] at this
    clear hs hR';subst hR2;rcases hc with hc|hc|hc|hc
    ·have t36:((d.toNat:Int)==36)=true:=by rw[bA];omega
     clear hc;go_enter Tryz.func197,Tryz.ntmps197;go_wp2_with fail;go_quiet (fail);go_wp2_with fail;rw[qF _ _ d (by simp)];go_wp2_with fail;go_ret;exact⟨rfl,(dX hw1 _).alloc (by simp) _⟩
    ·have t36:((d.toNat:Int)==36)=false:=by rw[aK];omega
     have t96:((d.toNat:Int)==96)=true:=by rw[bA];omega
     clear hc;go_enter Tryz.func197,Tryz.ntmps197;go_wp2_with fail;go_quiet (fail);go_wp2_with fail;rw[qF _ _ d (by simp)];go_wp2_with fail;go_ret;exact⟨rfl,(dX hw1 _).alloc (by simp) _⟩
    ·have t36:((d.toNat:Int)==36)=false:=by rw[aK];omega
     have t96:((d.toNat:Int)==96)=false:=by rw[aK];omega
     have t34:((d.toNat:Int)==34)=true:=by rw[bA];omega
     clear hc;go_enter Tryz.func197,Tryz.ntmps197;go_wp2_with fail;go_quiet (fail);go_wp2_with fail;rw[qF _ _ d (by simp)];go_wp2_with fail;go_ret;exact⟨rfl,(dX hw1 _).alloc (by simp) _⟩
    ·have t36:((d.toNat:Int)==36)=false:=by rw[aK];omega
     have t96:((d.toNat:Int)==96)=false:=by rw[aK];omega
     have t34:((d.toNat:Int)==34)=false:=by rw[aK];omega
     have t92:((d.toNat:Int)==92)=true:=by rw[bA];omega
     clear hc;go_enter Tryz.func197,Tryz.ntmps197;go_wp2_with fail;go_quiet (fail);go_wp2_with fail;rw[qF _ _ d (by simp)];go_wp2_with fail;go_ret;exact⟨rfl,(dX hw1 _).alloc (by simp) _⟩
   ·have hc:d.toNat≠36∧d.toNat≠96∧d.toNat≠34∧d.toNat≠92:=by unfold J3 at hs;simp at hs;omega
    have t36:((d.toNat:Int)==36)=false:=by rw[aK];omega
    have t96:((d.toNat:Int)==96)=false:=by rw[aK];omega
    have t34:((d.toNat:Int)==34)=false:=by rw[aK];omega
    have t92:((d.toNat:Int)==92)=false:=by rw[aK];omega
    by_cases h10:d.toNat=10
    ·have t10:((d.toNat:Int)==10)=true:=by rw[bA];omega
     have hR2:R=[]:=by have:=hR'.out;rwa [aC hs,aB h10] at this
     clear hs hc h10 hR';subst hR2;go_enter Tryz.func197,Tryz.ntmps197;go_wp2_with fail;go_quiet (fail);go_wp2_with fail;go_ret;exact⟨rfl,dX hw1 _⟩
    ·have t10:((d.toNat:Int)==10)=false:=by rw[aK];omega
     have hR2:R=sub l x t:=by have:=hR'.out;rwa [aC hs,aC h10] at this
     clear hs hc h10 hR';have HR:=ac hR2;clear hR2;go_enter Tryz.func197,Tryz.ntmps197;go_wp2_with fail;go_quiet (fail);go_wp2_with fail;go_quiet (fail);go_wp2_with fail;go_ret;exact⟨IV HR.out.symm,dX (dX hw1 _) _⟩
def rK (t:Nat) (o:Bool):Nat:=if o=true then t else t-1
theorem AK (q:fP):rJ q=rK (fF q) q.op:=rfl
theorem NG {m u:Int} {x t:Nat} {o:Bool} (hm:m=4∨m=5) (hx:x<t) (ho:o=false→x+2≤t) :
    yE ⟨m,x,t,u,o⟩=((x+1:Nat):Int)∧FZ ⟨m,x,t,u,o⟩=((rK t o:Nat):Int):=by
  have e1:yE ⟨m,x,t,u,o⟩=(x:Int)+1:=by
    unfold yE;rw[aC (show ¬(m=1∨m=7∨m=8) by omega),aC (show ¬m=9 by omega)]
  refine⟨by rw[e1];rfl,?_⟩;unfold FZ;rw[e1];unfold BZ Bm rK
  cases o with
  | true=>
    rw[aB (show m=12∨m=13∨true=true from .inr (.inr rfl))];rw[aC (show ¬((t:Int)<(x:Int)+1) by omega)];rfl
  | false=>
    have:=ho rfl
    rw[aC (show ¬(m=12∨m=13∨false=true) by simp;omega),aC (show ¬m=9 by omega)];rw[aC (show ¬((t:Int)-1<(x:Int)+1) by omega)];show (t:Int)-1=((t-1:Nat):Int);omega
theorem ve {m u:Int} {x t:Nat} {o:Bool} (w:World) (hm:m=4∨m=5) (hx:x<t) (ho:o=false→x+2≤t) (ht:t≤1000) :
    jJ 196 #[.agg #[.int .i64 m,.int .i64 (x:Int),.int .i64 (t:Int),.int .i64 u,.bool o]] w (.tuple #[.int .i64 ((x+1:Nat):Int),.int .i64 ((rK t o:Nat):Int)]):=by
  have h:=FV ⟨m,x,t,u,o⟩ w (show (0:Int)≤(x:Int) by omega) (show (x:Int)≤100000 by omega) (show (0:Int)≤(t:Int) by omega) (show (t:Int)≤100000 by omega);obtain⟨e1,e2⟩:=NG (u:=u) hm hx ho;rw[e1,e2] at h;exact h
theorem Ca {x t:Nat} {o:Bool} (hx:x<t) (ho:o=false→x+2≤t):x+1≤rK t o∧rK t o≤t:=by
  unfold rK
  cases o with
  | true=>simp;omega
  | false=>have:=ho rfl;simp;omega
theorem fC {g:Nat} {t:TypeId} {b c d:Value} (h:Bk w g t #[a,b,c,d,e]):w.cell? ⟨g,0,none⟩=some a∧w.cell? ⟨g,1,none⟩=some b∧w.cell? ⟨g,2,none⟩=some c∧w.cell? ⟨g,3,none⟩=some d∧w.cell? ⟨g,4,none⟩=some e:=
  ⟨by rw[h.cell];rfl,by rw[h.cell];rfl,by rw[h.cell];rfl,by rw[h.cell];rfl,by rw[h.cell];rfl⟩
theorem EB (w:World) (n₀ b c mm:Nat) (X:Nat→Prop) (l:List UInt8) (A:Option Addr) (hl:l.length≤900) (h:uD w n₀ X b l A c mm) (hn:n₀≤w.heap.size) (hx:x<t) (ht:t≤l.length) (ho:o=false→x+2≤t) :
    Calls Tryz.prog 168 #[.pointer (some ⟨b,0,none⟩),.agg #[.int .i64 4,.int .i64 (x:Int),.int .i64 (t:Int),.int .i64 u,.bool o]] w fun e w'=>
      e=.returned (.tuple #[.agg #[.bool false,.bool true,.string ⟨(sub l (x+1) (rK t o)).toArray⟩],.bool true])∧Below w.heap.size w w':=by
  obtain⟨hb1,hb2⟩:=Ca hx ho;obtain⟨E,hE⟩:∃E,E=rK t o:=⟨_,rfl⟩;rw[←hE] at hb1 hb2 ⊢;have HE:=ac (ae hE (ae ho h));have k1:(x:Int)+1≤(E:Int):=by omega
  have k2:(E:Int)≤(l.length:Int):=by omega
  have k3:(0:Int)≤(x:Int)+1:=by omega
  have k4:((x:Int)+1).toNat=x+1:=by omega
  clear hE ho h;go_enter Tryz.func168,Tryz.ntmps168;go_upto_region 1 with fail
  refine JO fun W hbW hk1 hk2 hs=>?_
  obtain⟨p0,p1,p2,p3,p4⟩:=fC hk1;have HW:=ac (ae hbW (ae hk1 (ae hk2 hs)));clear hbW hk1 hk2 hs;go_wp2_with (
    (go_at_call 196;refine(ve _ (.inl rfl) hx HE.out.2.1 (by omega)).mono ?_;rintro e w2 ⟨he,hb2⟩;rw[←HE.out.1] at he;subst he;have hk3:=HW.out.2.2.1.below hb2 HW.out.2.2.1.lt;have hr2:=(HE.out.2.2.below HW.out.1 hn).below hb2 (aA hn HW.out.1.size);have y0:w2.cell? ⟨b,0,none⟩=some (.string ⟨l.toArray⟩):=by rw[hr2.hd.cell];rfl
     obtain⟨_,_,_,f0,f1,f2⟩:=hk3.three;obtain⟨c0,c1,c2,_⟩:=hk3.three;have H2:=ac (ae hb2 hk3);clear hb2 hk3 hr2))
  refine JW H2.out.2 fun F hF hgF x0 x1 x2=>?_
  refine bu (v:=.tuple #[.agg #[.bool false,.bool true,.string ((ByteArray.mk l.toArray).extract (x+1) E)],.bool true]) (by simp[results,Tryz.results168,go_sem,x0,x1,x2]) rfl ⟨?_,?_⟩
  ·rw[fq];rfl
  ·exact(HW.out.1.trans (H2.out.1.mono HW.out.1.size)).grown hgF (by have:=HW.out.1.size;have:=H2.out.1.size;omega) (by intro j hj;injection hj with hj;omega)
def Jw (s:List UInt8):Bool:=decide (s≠[]∧s≠[10])
theorem xQ (w:World) (n₀ b c mm:Nat) (X:Nat→Prop) (l:List UInt8) (A:Option Addr) (hl:l.length≤900) (h:uD w n₀ X b l A c mm) (hn:n₀≤w.heap.size) (hx:x<t) (ht:t≤l.length) (ht2:t≤x+2) :
    Calls Tryz.prog 168 #[.pointer (some ⟨b,0,none⟩),.agg #[.int .i64 13,.int .i64 (x:Int),.int .i64 (t:Int),.int .i64 u,.bool o]] w fun e w'=>
      e=.returned (.tuple #[.agg #[.bool false,.bool true,.string ⟨(sub l (x+1) t).toArray⟩],.bool (Jw (sub l (x+1) t))])∧Below w.heap.size w w':=by
  obtain⟨S,hS⟩:∃S,S=sub l (x+1) t:=⟨_,rfl⟩;have hx1:(ByteArray.mk l.toArray).extract (x+1) t=⟨S.toArray⟩:=by rw[fq,hS];rfl
  have hSl:S.length≤1:=by rw[hS,vK ht];omega
  rw[←hS];clear hS;have k1:(x:Int)+1≤(t:Int):=by omega
  have k2:(t:Int)≤(l.length:Int):=by omega
  have k3:(0:Int)≤(x:Int)+1:=by omega
  have k4:((x:Int)+1).toNat=x+1:=by omega
  have k5:IntKind.i64.wrap ((x:Int)+1)=(x:Int)+1:=aO _ (by omega);have HE:=ac h;clear h;have hc:S=[]∨S=[10]∨∃d,S=[d]∧d≠10:=by
    match S,hSl with
    | [],_=>exact .inl rfl
    | [d],_=>
      by_cases hd:d=10
      ·exact .inr (.inl (by rw[hd]))
      ·exact .inr (.inr ⟨d,rfl,hd⟩)
  clear hSl;rcases hc with rfl|rfl|⟨d,rfl,hd⟩
  ·rw[show Jw []=false from rfl];go_enter Tryz.func168,Tryz.ntmps168;go_upto_region 1 with fail
   refine JO fun W hbW hk1 hk2 hs=>?_
   obtain⟨p0,p1,p2,p3,p4⟩:=fC hk1;have hr2:=HE.out.below hbW hn;have y0:W.cell? ⟨b,0,none⟩=some (.string ⟨l.toArray⟩):=by rw[hr2.hd.cell];rfl
   obtain⟨_,_,_,f0,f1,f2⟩:=hk2.three;obtain⟨c0,c1,c2,_⟩:=hk2.three;have HW:=ac (ae hbW (ae hk1 (ae hk2 hs)));clear hbW hk1 hk2 hs hr2;go_wp2_with fail;go_quiet (fail);go_wp2_with fail;refine JW (HW.out.2.2.1.drewN _) fun F hF hgF x0 x1 x2=>?_
   exact bu (v:=.tuple #[.agg #[.bool false,.bool true,.string ⟨#[]⟩],.bool false]) (by simp[results,Tryz.results168,go_sem,x0,x1,x2]) rfl ⟨rfl,(dX HW.out.1 _).grown hgF (by have:=HW.out.1.size;simpa using this) (by intro j hj;injection hj with hj;omega)⟩
  ·rw[show Jw [10]=false from rfl];go_enter Tryz.func168,Tryz.ntmps168;go_upto_region 1 with fail
   refine JO fun W hbW hk1 hk2 hs=>?_
   obtain⟨p0,p1,p2,p3,p4⟩:=fC hk1;have hr2:=HE.out.below hbW hn;have y0:W.cell? ⟨b,0,none⟩=some (.string ⟨l.toArray⟩):=by rw[hr2.hd.cell];rfl
   obtain⟨_,_,_,f0,f1,f2⟩:=hk2.three;obtain⟨c0,c1,c2,_⟩:=hk2.three;have HW:=ac (ae hbW (ae hk1 (ae hk2 hs)));clear hbW hk1 hk2 hs hr2;go_wp2_with fail;go_quiet (fail);go_wp2_with fail;refine JW (HW.out.2.2.1.drewN _) fun F hF hgF x0 x1 x2=>?_
   exact bu (v:=.tuple #[.agg #[.bool false,.bool true,.string ⟨#[10]⟩],.bool false]) (by simp[results,Tryz.results168,go_sem,x0,x1,x2]) rfl ⟨rfl,(dX HW.out.1 _).grown hgF (by have:=HW.out.1.size;simpa using this) (by intro j hj;injection hj with hj;omega)⟩
  ·rw[show Jw [d]=true by unfold Jw;simp[hd]];go_enter Tryz.func168,Tryz.ntmps168;go_upto_region 1 with fail
   refine JO fun W hbW hk1 hk2 hs=>?_
   obtain⟨p0,p1,p2,p3,p4⟩:=fC hk1;have hr2:=HE.out.below hbW hn;have y0:W.cell? ⟨b,0,none⟩=some (.string ⟨l.toArray⟩):=by rw[hr2.hd.cell];rfl
   obtain⟨_,_,_,f0,f1,f2⟩:=hk2.three;obtain⟨c0,c1,c2,_⟩:=hk2.three;have HW:=ac (ae hbW (ae hk1 (ae hk2 hs)));clear hbW hk1 hk2 hs hr2;go_wp2_with fail;go_quiet (fail);go_wp2_with fail;refine JW (HW.out.2.2.1.drewN _) fun F hF hgF x0 x1 x2=>?_
   exact bu (v:=.tuple #[.agg #[.bool false,.bool true,.string ⟨#[d]⟩],.bool true]) (by simp[results,Tryz.results168,go_sem,x0,x1,x2,hd]) rfl ⟨rfl,(dX HW.out.1 _).grown hgF (by have:=HW.out.1.size;simpa using this) (by intro j hj;injection hj with hj;omega)⟩
def OL (x:Pc):List Value:=[.bool x.ex,.bool x.qu,.string ⟨x.tx.toArray⟩]
section
open Go.RowKit
attribute [local go_sem] Oper.semAt_some
theorem mU {N:Nat} {l:List UInt8} (h:W.ownsRow N 5 1 v l.length (fD l)) :
    (Go.convert 149 9 v).run Tryz.prog W=.ok (.string ⟨l.toArray⟩) W:=by
  rcases h.2 with ⟨rfl,h0⟩|⟨g,cap,cur,rfl,_⟩
  ·obtain rfl:=bN h0;rw[run_convert_bytes_string W _ _ _ none 0 0 Tryz.underlying149 Tryz.underlying5 Tryz.underlying9];rfl
  ·refine run_convert_bytes_back (P:=Tryz.prog) W 149 9 5 ⟨g,0,none⟩ cap l Tryz.underlying149 Tryz.underlying5 Tryz.underlying9 ?_;intro j hj;rw[Addr.add_lit,dv];refine eM h j _ ?_;rw[fD,aV,ax hj];rfl
abbrev sD (x:Pc):Array Value:=#[.agg #[.bool x.ex,.bool x.qu,.string ⟨x.tx.toArray⟩]]
def YW (l':Nat) (N:List Pc) (n₀:Nat) (Xc:Nat→Prop) (J Jx:(Nat→Prop)→List Pc→World→Prop):Prop:=
  ∀X pre x W1,J X pre W1→pre++[x]<+:N→∀m,YieldAt Fence.wide m Tryz.prog l' (sD x) W1 fun e W'=>
   (e=.returned (.bool true)∧J X (pre++[x]) W'∧fi n₀ Xc W1 W'∧∀k,X k→W'.heap[k]? = W1.heap[k]?)∨(e=.returned (.bool false)∧Jx X (pre++[x]) W'∧fi n₀ Xc W1 W'∧∀k,X k→W'.heap[k]? = W1.heap[k]?)
structure It (W:World) (X:Nat→Prop) (p y l':Nat) (buf:List UInt8) (v:Value):Prop where
  pb:Bk W p 149 #[v]
  own:W.ownsRow 0 5 1 v buf.length (fD buf)
  yb:Bk W y 186 #[.func (.yield l') #[] #[]]
  xp:X p
  xy:X y
  xv:∀k,v.ownBlock=some k→X k
theorem It.same (h:It W X p y l' buf v) (hXY:∀k,X k→Y k) (hs:∀k,X k→W'.heap[k]? = W.heap[k]?):It W' Y p y l' buf v:=by
  refine⟨(hs p h.xp).trans h.pb,⟨h.own.1,?_⟩,(hs y h.xy).trans h.yb,hXY _ h.xp,hXY _ h.xy,fun k hk=>hXY k (h.xv k hk)⟩;rcases h.own.2 with h2|⟨g,cap,cur,he,hg,hh,r⟩
  ·exact .inl h2
  ·exact .inr ⟨g,cap,cur,he,hg,(hs g (h.xv g (by rw[he];rfl))).trans hh,r⟩
theorem It.below (h:It W X p y l' buf v) (hXY:∀k,X k→Y k) (hb:Below W.heap.size W W'):It W' Y p y l' buf v:=by
  refine⟨h.pb.below hb h.pb.lt,eC h.own hb,h.yb.below hb h.yb.lt,hXY _ h.xp,hXY _ h.xy,fun k hk=>hXY k (h.xv k hk)⟩
theorem It.ne (h:It W X p y l' buf v):p≠y:=by
  intro e;have h1:=h.pb;have h2:=h.yb;unfold Bk at h1 h2;rw[e,h2] at h1;injection h1 with h1
  injection h1 with _ h1
  exact absurd h1 (by decide)
theorem It.put (h:It W X p y l' buf v) (ho:W.ownsRow 0 5 1 v' buf'.length (fD buf')) (hv:∀k,v'.ownBlock=some k→X k):It (W.setCell ⟨p,0,none⟩ v') X p y l' buf' v':=
  ⟨by simpa using h.pb.set 0 v',fh ho (eP ho h.pb (by decide)) _,h.yb.far h.ne.symm _,h.xp,h.xy,hv⟩
structure uF (J:(Nat→Prop)→List Pc→World→Prop) (W:World) (n₀:Nat) (Xc X:Nat→Prop) (pre:List Pc) (p y l':Nat) (buf:List UInt8) (v:Value) (b:Nat) (l:List UInt8) (A:Option Addr) (c m:Nat):Prop where
  j:J X pre W
  it:It W X p y l' buf v
  rd:uD W n₀ Xc b l A c m
  xn:∀k,X k→n₀≤k∧k<W.heap.size
  wn:n₀≤W.heap.size
theorem uF.below (hF:l8 J) {l:List UInt8} (h:uF J W n₀ Xc X pre p y l' buf v b l A c m) (hb:Below W.heap.size W W'):uF J W' n₀ Xc (jH X W W') pre p y l' buf v b l A c m:=
  ⟨hF _ _ _ _ h.j (XG.of_below hb),h.it.below (fun k hk=>.inl hk) hb,h.rd.below hb h.wn,fun k hk=>by
    rcases hk with hk|hk
    ·have:=h.xn k hk;have:=hb.size;omega
    ·have:=h.wn;omega,aA h.wn hb.size⟩
theorem uF.put (hF:l8 J) {l:List UInt8} (h:uF J W n₀ Xc X pre p y l' buf v b l A c m) (ho:W.ownsRow 0 5 1 v' buf'.length (fD buf')) (hv:∀k,v'.ownBlock=some k→X k):uF J (W.setCell ⟨p,0,none⟩ v') n₀ Xc (jH X W (W.setCell ⟨p,0,none⟩ v')) pre p y l' buf' v' b l A c m:=by
  have hx:XG X W (W.setCell ⟨p,0,none⟩ v'):=(XG.refl X W).set (.inl h.it.xp) 0 v';have hit:=h.it.put ho hv;refine⟨hF _ _ _ _ h.j hx,⟨hit.pb,hit.own,hit.yb,.inl hit.xp,.inl hit.xy,fun k hk=>.inl (hit.xv k hk)⟩,?_,fun k hk=>by
    have hsz:(W.setCell ⟨p,0,none⟩ v').heap.size=W.heap.size:=by simp[World.setCell]
    rcases hk with hk|hk
    ·have:=h.xn k hk;omega
    ·have:=h.wn;omega,by have:=h.wn;simpa [World.setCell] using this⟩
  exact h.rd.keep ((fi.refl _ _ _).set (.inl (h.xn _ h.it.xp).1) 0 v')
theorem uF.next {l:List UInt8} (h:uF J W n₀ Xc X pre p y l' buf v b l A c m) (hj:J' X pre' W') (hk:fi n₀ Xc W W') (hs:∀k,X k→W'.heap[k]? = W.heap[k]?):uF J' W' n₀ Xc X pre' p y l' buf v b l A c m:=
  ⟨hj,h.it.same (fun _ hk=>hk) hs,h.rd.keep hk,fun k hk'=>⟨(h.xn k hk').1,bQ (h.xn k hk').2 hk.size⟩,aA h.wn hk.size⟩
theorem nP (l':Nat) (N:List Pc) (n₀ p y b c m:Nat) (Xc X:Nat→Prop) (l:List UInt8) (A:Option Addr) (J Jx:(Nat→Prop)→List Pc→World→Prop) (hF:l8 J) (hY:YW l' N n₀ Xc J Jx) (W:World) (pre:List Pc) (buf:List UInt8) (v:Value) (h:uF J W n₀ Xc X pre p y l' buf v b l A c m) (hN:buf≠[]→pre++[⟨false,false,buf⟩]<+:N) :
    CallsIn Fence.wide n Tryz.prog 165 #[.pointer (some ⟨p,0,none⟩),.pointer (some ⟨y,0,none⟩)] W fun e W'=>
      (e=.returned (.bool true)∧∃X',(∀k,X k→X' k)∧(∀k,X k→k≠p→W'.heap[k]? = W.heap[k]?)∧fi n₀ Xc W W'∧uF J W' n₀ Xc X' (pre++tW buf) p y l' [] (.slice none 0 0) b l A c m)∨(e=.returned (.bool false)∧∃X',Jx X' (pre++tW buf) W'):=by
  have hcv:=mU h.it.own;have y0:W.cell? ⟨p,0,none⟩=some v:=by rw[h.it.pb.cell];rfl
  have f0:=h.it.pb.frozen 0;have y1:W.cell? ⟨y,0,none⟩=some (.func (.yield l') #[] #[]):=by rw[h.it.yb.cell];rfl
  have hne:¬y=p:=fun e=>h.it.ne e.symm
  have h2:=h.put hF (buf':=[]) (v':=.slice none 0 0) (de _ _ _ _) (by intro k hk;simp[Value.ownBlock] at hk);obtain⟨A1,n1,c1,hv⟩:=eA h.it.own;subst hv;have H:=ac (ae h (ae h2 (ae hY hN)));clear h h2 hY hN
  cases buf with
  | nil=>
    refine callsIn_of_wp Tryz.func165 rfl trivial ?_ rfl;simp only[Tryz.ntmps165,cJ,aL,cg,Nat.reduceAdd,Nat.reduceSub,cy,cz,cO,cH,cK,bH];gi_wp2_with fail;refine⟨(fun f h=>by cases h),?_⟩;gi_wp2_with fail;refine bu (dH rfl _ _ _) rfl ?_;refine .inl ⟨rfl,jH X W (W.setCell ⟨p,0,none⟩ (.slice none 0 0)),fun k hk=>.inl hk,fun k _ hk=>bX _ _ _ k hk,(fi.refl _ _ _).set (.inl (H.out.1.xn _ H.out.1.it.xp).1) 0 _,?_⟩;rw[show tW []=[] from rfl,bB];exact H.out.2.1
  | cons a r=>
    obtain⟨fn,tmps,assign,body,hy,hR⟩:=H.out.2.2.1 _ pre ⟨false,false,a::r⟩ _ H.out.2.1.j (H.out.2.2.2 (by simp)) (n-1);have hR2:=ac hR;clear hR;simp only[sD] at hy;have hy2:=ac hy;clear hy;refine callsIn_of_wp Tryz.func165 rfl trivial ?_ rfl;simp only[Tryz.ntmps165,cJ,aL,cg,Nat.reduceAdd,Nat.reduceSub,cy,cz,cO,cH,cK,bH];gi_wp2_with fail;rw[hy2.out];gi_wp2_with fail;refine⟨fun h=>by simp[Fence.wide] at h,?_⟩;refine hR2.out.mono ?_;rintro e W3 (⟨rfl,hJ3,hk3,hs3⟩|⟨rfl,hJx3,hk3,hs3⟩)
    ·have H3:=ac (ae (H.out.2.1.next hJ3 hk3 hs3) (ae hs3 hk3));clear hJ3 hk3 hs3;gi_wp2_with fail;refine bu (dH rfl _ _ _) rfl ?_;exact .inl ⟨rfl,jH X W (W.setCell ⟨p,0,none⟩ (.slice none 0 0)),fun k hk=>.inl hk,fun k hk hkp=>(H3.out.2.1 k (.inl hk)).trans (bX _ _ _ k hkp),((fi.refl _ _ _).set (.inl (H.out.1.xn _ H.out.1.it.xp).1) 0 _).trans H3.out.2.2,H3.out.1⟩
    ·have H3:=ac hJx3;clear hJx3 hk3 hs3;gi_wp2_with fail;refine bu (dH rfl _ _ _) rfl ?_;exact .inr ⟨rfl,jH X W (W.setCell ⟨p,0,none⟩ (.slice none 0 0)),H3.out⟩
end
end Go.Proofs.YtmclohkaiemnaaaGreatDoor
