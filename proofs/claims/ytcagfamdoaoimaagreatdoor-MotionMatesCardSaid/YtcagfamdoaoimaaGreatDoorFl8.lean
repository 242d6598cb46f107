/- literal's reader: a text with its parts, and a map from places to the numbers of the parts that begin there. -/
import Derived.Test.YtcagfamdoaoimaaGreatDoorLa9
import Derived.Test.YtcagfamdoaoimaaGreatDoorRfy
import Derived.Maps.Own
import Derived.Maps.OwnOps
import Derived.Maps.Views
import Derived.IntWalk
import Derived.BigQuiet
import Derived.Deep.DeepCutAuto
import Derived.Deep.CutBlock
set_option linter.unusedVariables false
set_option linter.unusedSimpArgs false
set_option maxRecDepth 100000
set_option maxHeartbeats 8000000
namespace Go.Proofs.YtcagfamdoaoimaaGreatDoor
open Go.RowKit
variable {J J':(Nat→Prop)→List Pc→World→Prop} {pre pre':List Pc} {L:List fh} {r buf buf':List UInt8} {b k n₀ c m n₁ B n p y l':Nat} {X Y Xc:Nat→Prop} {A:Option Addr} {q:fh} {a v v':Value} {w w' W W':World} (u:Int) (x t:Nat) (l:List UInt8) (o:Bool)
def wH (L:List fh) (x:Int):Nat→Int
  | 0=>0
  | k+1=>if (L.getD k dP).fr=x then (k:Int)+1 else wH L x k
theorem vy {L:List fh} {x:Nat} (h:gE L x=none):∀k,k≤L.length→wH L (x:Int) k=0
  | 0,_=>rfl
  | k+1,hk=>by
    unfold wH;have h1:=cW.1 h L[k] (List.getElem_mem (by omega));have e:L.getD k dP=L[k]:=getD_some (ax (by omega));rw[e,aB (by simpa using h1)];exact vy h k (by omega)
theorem B8 {L:List fh} (hr:(ia L).Pairwise (· < ·)) {i:Nat} {q:fh} (hi:L[i]? = some q):∀k,i<k→k≤L.length→wH L q.fr k=(i:Int)+1
  | 0,h,_=>by omega
  | k+1,h,hk=>by
    unfold wH;have hlt:k<L.length:=by omega
    have e:L.getD k dP=L[k]:=getD_some (ax hlt);rw[e];by_cases hik:k=i
    ·subst hik
     have:L[k]=q:=by obtain⟨_,h2⟩:=ay.1 hi;exact h2
     rw[this,aD rfl]
    ·have h2:=(IT hr (i:=k) (k:=i) (ax hlt) hi).1 (by omega);rw[aB (by omega)];exact B8 hr hi k (by omega) (by omega)
theorem GA (hr:(ia L).Pairwise (· < ·)) {x:Nat} (h:gE L x=some q):∃i:Nat,L[i]? = some q∧wH L (x:Int) L.length=(i:Int)+1:=by
  have h1:=List.mem_of_find?_eq_some h;have h2:q.fr=x:=by have:=List.find?_some h;simpa using this
  obtain⟨i,hi⟩:=dq.1 h1;refine⟨i,hi,?_⟩;rw[←h2];exact B8 hr hi _ (ay.1 hi).1 (au _)
def MP (w:World) (b:Nat) (L:List fh) (k:Nat):Prop:=∃D:DataW Unit,w.ownsMap Tryz.prog 3 (plainElem Tryz.prog 3) b k D∧Maps.IsMap D∧∀x:Int,D.atKey (.int .i64 x) (.lit (.int .i64 0))=.lit (.int .i64 (wH L x k))
theorem AM (hl:l.length≤900):∀q∈eC l,0≤q.fr∧q.fr≤100000:=by
  intro q hq;obtain⟨f,t,h1,h2,h3,h4,_⟩:=tP hq;omega
theorem wh {a:Int} (h0 : -100000≤a) (h1:a≤100000):(Lit.int .i64 a).wf=true:=WalkArith.wf_i64 (by omega)
theorem MP.made (w:World) (L:List fh):MP (w.alloc (.map #[] 0)) w.heap.size L 0:=
  ⟨.map [],World.ownsMap_made w _ _ _,⟨[],rfl⟩,fun x=>rfl⟩
theorem MP.put (h:MP w b L k) (hq:L[k]? = some q) (hL:L.length≤100000) (h0:0≤q.fr) (h1:q.fr≤100000) :
    ∃w',(Instr.mapUpdate 97 (.map (some b)) (.int .i64 q.fr) (.int .i64 ((k:Int)+1))).run Tryz.prog w=.ok () w'∧MP w' b L (k+1)∧w.grownBy w' (some b):=by
  obtain⟨D,hD,hm,hat⟩:=h;have hk:=(ay.1 hq).1;obtain⟨w',hrun,hown,hg⟩:=hD.update (Maps.int_keyed Tryz.underlying3) Tryz.underlying97 (by unfold maxLen;omega) (Maps.keyOf_int_mk Tryz.underlying3 (wh (by omega) h1)) (plainElem_int Tryz.underlying3 (wh (a:=(k:Int)+1) (by omega) (by omega)));refine⟨w',hrun,⟨_,hown,hm.put _ _,fun x=>?_⟩,hg⟩;have e:L.getD k dP=q:=getD_some hq;unfold wH;rw[e];by_cases hx:q.fr=x
  ·subst hx;rw[aD rfl,Maps.atKey_put_same hm (by trivial)]
  ·rw[aB hx,Maps.atKey_put_other (by intro h;injection h with _ h;exact hx h.symm)];exact hat x
theorem MP.look (h:MP w b L k) {x:Int} (h0 : -100000≤x) (h1:x≤100000) :
    (Instr.lookup 97 (.map (some b)) (.int .i64 x) false).run Tryz.prog w=.ok (.int .i64 (wH L x k)) w:=by
  obtain⟨D,hD,hm,hat⟩:=h;obtain⟨c,hrun,hc,_⟩:=hD.lookup_int (Maps.int_keyed Tryz.underlying3) Tryz.underlying97 Tryz.underlying3 (by kernel_rfl) (Maps.keyOf_int_mk Tryz.underlying3 (wh h0 h1));rw[hat x] at hc;injection hc with hc
  injection hc with _ hc
  rw[hrun,hc]
theorem MP.kept (h:MP w b L k) (hb:w'.heap[b]? = w.heap[b]?):MP w' b L k:=by
  obtain⟨D,⟨es,clock,h1,h2⟩,hm,hat⟩:=h;exact⟨D,⟨es,clock,hb.trans h1,h2⟩,hm,hat⟩
theorem MP.lt (h:MP w b L k):b<w.heap.size:=by
  obtain⟨D,hD,_⟩:=h;exact hD.lt
structure uY (w:World) (n₀:Nat) (X:Nat→Prop) (b:Nat) (l:List UInt8) (A:Option Addr) (c m:Nat):Prop where
  hd:Bk w b 203 #[.string ⟨l.toArray⟩,.slice A (eC l).length c,.map (some m)]
  row:w.ownsRow 0 79 5 (.slice A (eC l).length c) (eC l).length (fw (eC l))
  mp:MP w m (eC l) (eC l).length
  bn:b<n₀∧¬X b
  mn:m<n₀∧¬X m
  rn:∀k,(Value.slice A (eC l).length c).ownBlock=some k→k<n₀∧¬X k
theorem uY.keep {l:List UInt8} (h:uY w n₀ X b l A c m) (hk:eN n₀ X w w'):uY w' n₀ X b l A c m:=by
  refine⟨(hk.same b h.bn.1 h.bn.2).trans h.hd,⟨h.row.1,?_⟩,h.mp.kept (hk.same m h.mn.1 h.mn.2),h.bn,h.mn,h.rn⟩;rcases h.row.2 with h2|⟨g,cap,cur,he,hg,hh,r⟩
  ·exact .inl h2
  ·have hg2:=h.rn g (by rw[he];rfl);exact .inr ⟨g,cap,cur,he,hg,(hk.same g hg2.1 hg2.2).trans hh,r⟩
theorem uY.below {l:List UInt8} (h:uY w n₀ X b l A c m) (hb:Below w.heap.size w w') (hn:n₀≤w.heap.size):uY w' n₀ X b l A c m:=h.keep (eN.of_below hb hn)
def Mn (o:Option fh):Value:=match o with
  | none=>.tuple #[.agg #[.int .i64 0,.int .i64 0,.int .i64 0,.int .i64 0,.bool false],.bool false]
  | some q=>.tuple #[.agg #[.int .i64 q.mode,.int .i64 q.fr,.int .i64 (tu q),.int .i64 q.up,.bool q.op],.bool true]
theorem NN (w:World) (n₀ b c m x:Nat) (X:Nat→Prop) (l:List UInt8) (A:Option Addr) (hl:l.length≤900) (hx:x≤1000) (h:uY w n₀ X b l A c m) (hn:n₀≤w.heap.size) :
    jL 232 #[.pointer (some ⟨b,0,none⟩),.int .i64 (x:Int)] w (Mn (gE (eC l) x)):=by
  have hpl:=oz l;have hw1:Below w.heap.size w (w.alloc (.cells #[.int .i64 0,.int .i64 0,.int .i64 0,.int .i64 0,.bool false] 79)):=aY (aC _ _) (au _) _;have h1:=h.below hw1 hn;have y2:(w.alloc (.cells #[.int .i64 0,.int .i64 0,.int .i64 0,.int .i64 0,.bool false] 79)).cell? ⟨b,2,none⟩=some (.map (some m)):=by rw[h1.hd.cell];rfl
  have y1:(w.alloc (.cells #[.int .i64 0,.int .i64 0,.int .i64 0,.int .i64 0,.bool false] 79)).cell? ⟨b,1,none⟩=some (.slice A (eC l).length c):=by rw[h1.hd.cell];rfl
  have hlk:=h1.mp.look (x:=(x:Int)) (by omega) (by omega)
  cases hf:gE (eC l) x with
  | none=>
    rw[vy hf _ (au _)] at hlk;have H:=aa (ac hf hlk);clear hf hlk;go_enter Tryz.func232,Tryz.ntmps232;go_wp2_with fail;rw[H.out.2];go_wp2_with fail;exact aK (v:=Mn none) (by simp[results,Tryz.results232,go_sem,Mn]) rfl ⟨rfl,aY (aC _ _) (au _) _⟩
  | some q=>
    obtain⟨i,hi,hp⟩:=GA (AK l) hf;rw[hp] at hlk;have hiL:=(ay.1 hi).1;obtain⟨g,rfl⟩:=jb h1.row (by omega);obtain⟨x0,x1,x2,x3,x4⟩:=rp h1.row hi;have v1:(i:Int)<((eC l).length:Int):=by omega
    have v2:(0:Int)≤(i:Int):=by omega
    have t1:((i:Int)+1==0)=false:=by rw[az];omega
    have H:=aa (ac hf (ac hlk hp));clear hf hlk hp hi;go_enter Tryz.func232,Tryz.ntmps232;go_wp2_with fail;rw[H.out.2.1];go_wp2_with fail;exact aK (v:=Mn (some q)) (by simp[results,Tryz.results232,go_sem,Mn]) rfl ⟨rfl,aY (aC _ _) (au _) _⟩
theorem MP.alloc (h:MP w b L k) (o:Obj):MP (w.alloc o) b L k:=h.kept (Below.heap_alloc w o b h.lt)
theorem MP.drew (h:MP w b L k):MP w.drew b L k:=h
theorem MP.below (h:MP w b L k) (hb:Below w.heap.size w w'):MP w' b L k:=h.kept (hb.block b h.lt)
theorem Lg (w:World) (l:List UInt8) (hl:l.length≤900) :
    Calls Tryz.prog 200 #[.string ⟨l.toArray⟩] w fun e w'=>∃(b c m:Nat) (A:Option Addr),e=.returned (.pointer (some ⟨b,0,none⟩))∧uY w' w'.heap.size (fun k=>k<w.heap.size) b l A c m∧Below w.heap.size w w':=by
  have hpl:=oz l;have hbd:=AM l hl;obtain⟨L,hL⟩:∃L,L=eC l:=⟨_,rfl⟩;rw[←hL] at hpl hbd;have HL:=aa (ac hL hbd);clear hL hbd;go_enter Tryz.func200,Tryz.ntmps200;go_wp2_with (
    (go_at_call 115;refine(Nc l _ (by omega)).mono ?_;rintro e w2 ⟨v,rfl,ho,hb2⟩;rw[←HL.out.1] at ho;obtain⟨A,n,c,rfl⟩:=dR ho;obtain rfl:=ei ho;have H:=aa (ac ho hb2);clear ho hb2))
  rw[run_makeMap];go_wp2_with fail;obtain⟨W0,hW0⟩:∃W0,(w2.alloc (.map #[] 0)).alloc (.cells #[.string ⟨l.toArray⟩,.slice A L.length c,.map (some w2.heap.size)] 203)=W0:=⟨_,rfl⟩;have hmp0:MP W0 w2.heap.size L 0:=by rw[←hW0];exact(MP.made w2 L).alloc _
  have hbk0:Bk W0 (w2.heap.size+1) 203 #[.string ⟨l.toArray⟩,.slice A L.length c,.map (some w2.heap.size)]:=by
    rw[←hW0];have:=Bk.new (w2.alloc (.map #[] 0)) 203 #[.string ⟨l.toArray⟩,.slice A L.length c,.map (some w2.heap.size)];rwa [aV] at this
  have hb0:Below w2.heap.size w2 W0:=by rw[←hW0];exact((aC _ w2).alloc (au _) _).alloc (by simp) _
  have hs0:W0.heap.size=w2.heap.size+2:=by rw[←hW0];simp
  rw[hW0];have HW:=aa (ac hmp0 (ac hbk0 (ac hb0 hs0)));clear hW0 hmp0 hbk0 hb0 hs0;go_loopw [17] (fun i wr=>∃k:Nat,k≤L.length∧i=.int .i64 k∧MP wr w2.heap.size L k∧Bk wr (w2.heap.size+1) 203 #[.string ⟨l.toArray⟩,.slice A L.length c,.map (some w2.heap.size)]∧Below w2.heap.size w2 wr) (fun i _=>L.length-(intOf i).toNat)
  case atStart=>exact⟨0,by omega,rfl,HW.out.1,HW.out.2.1,HW.out.2.2.1⟩
  case round=>
    obtain⟨k,hk,rfl,hmp,hbk,hb⟩:=hrel;by_cases hlt:k<L.length
    ·have u1:(k:Int)<(L.length:Int):=by omega
     have u2:(0:Int)≤(k:Int):=by omega
     have u3:IntKind.i64.wrap ((k:Int)+1)=(k:Int)+1:=aS _ (by omega);obtain⟨q,hq⟩:∃q,L[k]? = some q:=⟨_,ax hlt⟩;have ho:=dS H.out.1 hb;obtain⟨g,rfl⟩:=jb ho (by omega);obtain⟨y0,y1,y2,y3,y4⟩:=rp ho hq;obtain⟨b0,b1⟩:=HL.out.2 q (aO hq);have z2:wr.cell? ⟨w2.heap.size+1,2,none⟩=some (.map (some w2.heap.size)):=by rw[hbk.cell];rfl
     have hbl:=hbk.lt;have hnew:Below wr.heap.size wr (wr.alloc (.cells #[.int .i64 q.mode,.int .i64 q.fr,.int .i64 (tu q),.int .i64 q.up,.bool q.op] 79)):=aY (aC _ _) (au _) _;obtain⟨w7,hrun7,hmp7,hg7⟩:=(hmp.below hnew).drew.put hq (by omega) b0 b1;have z3:(wr.alloc (.cells #[.int .i64 q.mode,.int .i64 q.fr,.int .i64 (tu q),.int .i64 q.up,.bool q.op] 79)).cell? ⟨w2.heap.size+1,2,none⟩=some (.map (some w2.heap.size)):=(hnew.cell (p:=⟨w2.heap.size+1,2,none⟩) hbl).trans z2;have HQ:=aa (ac hmp7 (ac hg7 (ac hrun7 (ac hbk (ac hb hnew)))));clear hmp7 hg7 hrun7 hbk hb hnew hmp hq ho z2;go_wp2_with fail;have hrun7:=HQ.out.2.2.1;go_region;all_goals (
       clear u3 hrun7;go_wp2_with fail;obtain⟨hmp7,hg7,_,hbk,hb,hnew⟩:=HQ.out;exact⟨⟨k+1,by omega,by go_num,hmp7,((hbk.below hnew hbk.lt).drew).grown hg7 (by simp),((hb.trans (hnew.mono hb.size)).drew).grown hg7 (by have:=hb.size;simp;omega) (by intro j hj;injection hj with hj;omega)⟩,by simp[intOf];omega⟩)
    ·obtain rfl:k=L.length:=by omega
     have HQ:=aa (ac hmp (ac hbk hb));clear hmp hbk hb;go_wp2_with fail;go_ret;obtain⟨hmp,hbk,hb⟩:=HQ.out;obtain⟨ho,hb2⟩:=H.out;refine⟨_,c,w2.heap.size,A,rfl,⟨?_,?_,?_,⟨hbk.lt,by have:=hb2.size;simp;omega⟩,⟨hmp.lt,by have:=hb2.size;simp;omega⟩,?_⟩,hb2.trans (hb.mono hb2.size)⟩
     ·rw[←HL.out.1];exact hbk
     ·rw[←HL.out.1];exact fK (dS ho hb) (bv _)
     ·rw[←HL.out.1];exact hmp
     ·rw[←HL.out.1];intro j hj;have h1:=ho.lt j hj
      have:=hb.size
      exact⟨by omega,by simp;omega⟩
theorem uY.weak {l:List UInt8} (h:uY w n₀ X b l A c m) (hX:∀k,Y k→X k) (hn:n₀≤n₁):uY w n₁ Y b l A c m:=
  ⟨h.hd,h.row,h.mp,⟨by have:=h.bn.1;omega,fun hy=>h.bn.2 (hX _ hy)⟩,⟨by have:=h.mn.1;omega,fun hy=>h.mn.2 (hX _ hy)⟩,fun k hk=>⟨by have:=(h.rn k hk).1;omega,fun hy=>(h.rn k hk).2 (hX _ hy)⟩⟩
def BD (o:Option fh) (x:Nat):Value:=match o with
  | none=>.tuple #[.agg #[.int .i64 0,.int .i64 0,.int .i64 0,.int .i64 0,.bool false],.bool false]
  | some q=>.tuple #[.agg #[.int .i64 q.mode,.int .i64 (x:Int),.int .i64 (eA q:Int),.int .i64 q.up,.bool q.op],.bool true]
theorem sK (w:World) (n₀ b c m x:Nat) (X:Nat→Prop) (l:List UInt8) (A:Option Addr) (hl:l.length≤900) (hx:x≤1000) (h:uY w n₀ X b l A c m) (hn:n₀≤w.heap.size) :
    jL 232 #[.pointer (some ⟨b,0,none⟩),.int .i64 (x:Int)] w (BD (gE (eC l) x) x):=by
  have e:BD (gE (eC l) x) x=Mn (gE (eC l) x):=by
    cases hf:gE (eC l) x with
    | none=>rfl
    | some q=>
      obtain⟨_,h1,h2,_⟩:=gv (lm l) hf;unfold BD Mn tu;simp only[h1];rw[←h2]
  rw[e];exact NN w n₀ b c m x X l A hl hx h hn
theorem lZ (m u:Int) (x t:Nat) (o:Bool) (w:World) (hx:x≤1000) (ht:t≤1000) :
    jL 233 #[.agg #[.int .i64 m,.int .i64 (x:Int),.int .i64 (t:Int),.int .i64 u,.bool o]] w (.bool (decide (m=12∧t=x+1))):=by
  by_cases hm:m=12
  ·have t1:(m==12)=true:=by simpa using hm
   by_cases hx1:t=x+1
   ·have t2:((t:Int)==(x:Int)+1)=true:=by rw[aR];omega
    rw[aG (show m=12∧t=x+1 from ⟨hm,hx1⟩)];clear hm hx1;go_enter Tryz.func233,Tryz.ntmps233;go_wp2_with fail;go_ret;exact⟨rfl,aY (aC _ _) (au _) _⟩
   ·have t2:((t:Int)==(x:Int)+1)=false:=by rw[az];omega
    rw[aL (show ¬(m=12∧t=x+1) from fun h=>hx1 h.2)];clear hm hx1;go_enter Tryz.func233,Tryz.ntmps233;go_wp2_with fail;go_ret;exact⟨rfl,aY (aC _ _) (au _) _⟩
  ·have t1:(m==12)=false:=by simpa using hm
   rw[aL (show ¬(m=12∧t=x+1) from fun h=>hm h.1)];clear hm;go_enter Tryz.func233,Tryz.ntmps233;go_wp2_with fail;go_ret;exact⟨rfl,aY (aC _ _) (au _) _⟩
theorem IW {l:List UInt8} {a:Nat} (h:sub l a b=r):Ending.returned (.string ((ByteArray.mk l.toArray).extract a b))=.returned (.string ⟨r.toArray⟩):=by rw[dX];unfold sub at h;rw[h]
theorem qO (W:World) (g:Nat) (d:UInt8) (hg:W.heap.size=g) :
    (Go.convert 63 9 (.slice (some ⟨g,0,none⟩) 1 1)).run Tryz.prog (W.alloc (.cells #[.int .u8 (d.toNat:Int)] 5))=.ok (.string ⟨[d].toArray⟩) (W.alloc (.cells #[.int .u8 (d.toNat:Int)] 5)):=by
  subst hg;refine run_convert_bytes_back (P:=Tryz.prog) _ 63 9 5 ⟨W.heap.size,0,none⟩ 1 [d] Tryz.underlying63 Tryz.underlying5 Tryz.underlying9 ?_;intro j hj;obtain rfl:j=0:=by simpa using hj
  rw[Addr.add_lit,cM,Bk.cell (Bk.new W _ _)];rfl
theorem DD (m u:Int) (x t:Nat) (o:Bool) (w:World) (n₀ b c mm:Nat) (X:Nat→Prop) (l:List UInt8) (A:Option Addr) (hl:l.length≤900) (h:uY w n₀ X b l A c mm) (hn:n₀≤w.heap.size) (hx:x<t) (ht:t≤l.length) (ht2:t≤x+2) (q:fh) (hq:eA q=t) :
    jL 248 #[.pointer (some ⟨b,0,none⟩),.agg #[.int .i64 m,.int .i64 (x:Int),.int .i64 (t:Int),.int .i64 u,.bool o]] w (.string ⟨(ns l q x).toArray⟩):=by
  obtain⟨R,hR⟩:∃R,R=ns l q x:=⟨_,rfl⟩;rw[←hR];unfold ns at hR;rw[hq] at hR;have hw1:Below w.heap.size w (w.alloc (.cells #[.int .i64 m,.int .i64 (x:Int),.int .i64 (t:Int),.int .i64 u,.bool o] 79)):=aY (aC _ _) (au _) _;have h1:=h.below hw1 hn;have y0:(w.alloc (.cells #[.int .i64 m,.int .i64 (x:Int),.int .i64 (t:Int),.int .i64 u,.bool o] 79)).cell? ⟨b,0,none⟩=some (.string ⟨l.toArray⟩):=by rw[h1.hd.cell];rfl
  by_cases h22:t<x+2
  ·rw[aD h22] at hR;subst hR;have t1:(t:Int)-(x:Int)<2:=by omega
   go_enter Tryz.func248,Tryz.ntmps248;go_wp2_with fail;go_ret;exact⟨rfl,hw1⟩
  ·rw[aB h22] at hR;have htx:t=x+2:=by omega
   have HT:=aa htx;have t0:¬((t:Int)-(x:Int)<2):=by omega
   have t00:(x:Int)≤(t:Int):=by omega
   have t01:(t:Int)≤(l.length:Int):=by omega
   obtain⟨d,hd⟩:∃d,l[x+1]? = some d:=⟨_,ax (by omega)⟩;have hgd:l.getD (x+1) 0=d:=by rw[aE,hd];rfl
   rw[hgd] at hR;obtain⟨hb1,hb2⟩:=ay.1 hd;have hL:∃h:x+1<(ByteArray.mk l.toArray).size,(ByteArray.mk l.toArray)[x+1]'h=d:=⟨hb1,hb2⟩;obtain⟨hL1,hL2⟩:=hL;have k1:(x:Int)+1<(l.length:Int):=by omega
   have k2:(0:Int)≤(x:Int)+1:=by omega
   have k3:((x:Int)+1).toNat=x+1:=by omega
   have k4:IntKind.i64.wrap ((x:Int)+1)=(x:Int)+1:=aS _ (by omega);have hR':=aa hR;clear hR hd hgd hb2 htx;by_cases hs:uW d=true
   ·have hc:d.toNat=36∨d.toNat=96∨d.toNat=34∨d.toNat=92:=by unfold uW at hs;simp at hs;omega
    have hR2:R=[d]:=by have:=hR'.out;rwa [aD hs] at this
    clear hs hR';subst hR2;rcases hc with hc|hc|hc|hc
    ·have t36:((d.toNat:Int)==36)=true:=by rw[aR];omega
     clear hc;go_enter Tryz.func248,Tryz.ntmps248;go_wp2_with fail;go_quiet (fail);go_wp2_with fail;rw[qO _ _ d (by simp)];go_wp2_with fail;go_ret;exact⟨rfl,(dN hw1 _).alloc (by simp) _⟩
    ·have t36:((d.toNat:Int)==36)=false:=by rw[az];omega
     have t96:((d.toNat:Int)==96)=true:=by rw[aR];omega
     clear hc;go_enter Tryz.func248,Tryz.ntmps248;go_wp2_with fail;go_quiet (fail);go_wp2_with fail;rw[qO _ _ d (by simp)];go_wp2_with fail;go_ret;exact⟨rfl,(dN hw1 _).alloc (by simp) _⟩
    ·have t36:((d.toNat:Int)==36)=false:=by rw[az];omega
     have t96:((d.toNat:Int)==96)=false:=by rw[az];omega
     have t34:((d.toNat:Int)==34)=true:=by rw[aR];omega
     clear hc;go_enter Tryz.func248,Tryz.ntmps248;go_wp2_with fail;go_quiet (fail);go_wp2_with fail;rw[qO _ _ d (by simp)];go_wp2_with fail;go_ret;exact⟨rfl,(dN hw1 _).alloc (by simp) _⟩
    ·have t36:((d.toNat:Int)==36)=false:=by rw[az];omega
     have t96:((d.toNat:Int)==96)=false:=by rw[az];omega
     have t34:((d.toNat:Int)==34)=false:=by rw[az];omega
     have t92:((d.toNat:Int)==92)=true:=by rw[aR];omega
     clear hc;go_enter Tryz.func248,Tryz.ntmps248;go_wp2_with fail;go_quiet (fail);go_wp2_with fail;rw[qO _ _ d (by simp)];go_wp2_with fail;go_ret;exact⟨rfl,(dN hw1 _).alloc (by simp) _⟩
   ·have hc:d.toNat≠36∧d.toNat≠96∧d.toNat≠34∧d.toNat≠92:=by unfold uW at hs;simp at hs;omega
    have t36:((d.toNat:Int)==36)=false:=by rw[az];omega
    have t96:((d.toNat:Int)==96)=false:=by rw[az];omega
    have t34:((d.toNat:Int)==34)=false:=by rw[az];omega
    have t92:((d.toNat:Int)==92)=false:=by rw[az];omega
    by_cases h10:d.toNat=10
    ·have t10:((d.toNat:Int)==10)=true:=by rw[aR];omega
     have hR2:R=[]:=by have:=hR'.out;rwa [aB hs,aD h10] at this
     clear hs hc h10 hR';subst hR2;go_enter Tryz.func248,Tryz.ntmps248;go_wp2_with fail;go_quiet (fail);go_wp2_with fail;go_ret;exact⟨rfl,dN hw1 _⟩
    ·have t10:((d.toNat:Int)==10)=false:=by rw[az];omega
     have hR2:R=sub l x t:=by have:=hR'.out;rwa [aB hs,aB h10] at this
     clear hs hc h10 hR';have HR:=aa hR2;clear hR2;go_enter Tryz.func248,Tryz.ntmps248;go_wp2_with fail;go_quiet (fail);go_wp2_with fail;go_quiet (fail);go_wp2_with fail;go_ret;exact⟨IW HR.out.symm,dN (dN hw1 _) _⟩
def rJ (t:Nat) (o:Bool):Nat:=if o=true then t else t-1
theorem Br (q:fh):lc q=rJ (eA q) q.op:=rfl
theorem Ni {m u:Int} {x t:Nat} {o:Bool} (hm:m=4∨m=5) (hx:x<t) (ho:o=false→x+2≤t) :
    ze ⟨m,x,t,u,o⟩=((x+1:Nat):Int)∧Gl ⟨m,x,t,u,o⟩=((rJ t o:Nat):Int):=by
  have e1:ze ⟨m,x,t,u,o⟩=(x:Int)+1:=by
    unfold ze;rw[aB (show ¬(m=1∨m=7∨m=8) by omega),aB (show ¬m=9 by omega)]
  refine⟨by rw[e1];rfl,?_⟩;unfold Gl;rw[e1];unfold Cs tu rJ
  cases o with
  | true=>
    rw[aD (show m=12∨m=13∨true=true from .inr (.inr rfl))];rw[aB (show ¬((t:Int)<(x:Int)+1) by omega)];rfl
  | false=>
    have:=ho rfl
    rw[aB (show ¬(m=12∨m=13∨false=true) by simp;omega),aB (show ¬m=9 by omega)];rw[aB (show ¬((t:Int)-1<(x:Int)+1) by omega)];show (t:Int)-1=((t-1:Nat):Int);omega
theorem vJ {m u:Int} {x t:Nat} {o:Bool} (w:World) (hm:m=4∨m=5) (hx:x<t) (ho:o=false→x+2≤t) (ht:t≤1000) :
    jL 247 #[.agg #[.int .i64 m,.int .i64 (x:Int),.int .i64 (t:Int),.int .i64 u,.bool o]] w (.tuple #[.int .i64 ((x+1:Nat):Int),.int .i64 ((rJ t o:Nat):Int)]):=by
  have h:=Gh ⟨m,x,t,u,o⟩ w (show (0:Int)≤(x:Int) by omega) (show (x:Int)≤100000 by omega) (show (0:Int)≤(t:Int) by omega) (show (t:Int)≤100000 by omega);obtain⟨e1,e2⟩:=Ni (u:=u) hm hx ho;rw[e1,e2] at h;exact h
theorem Cy {x t:Nat} {o:Bool} (hx:x<t) (ho:o=false→x+2≤t):x+1≤rJ t o∧rJ t o≤t:=by
  unfold rJ
  cases o with
  | true=>simp;omega
  | false=>have:=ho rfl;simp;omega
theorem ej {g:Nat} {t:TypeId} {b c d e:Value} (h:Bk w g t #[a,b,c,d,e]):w.cell? ⟨g,0,none⟩=some a∧w.cell? ⟨g,1,none⟩=some b∧w.cell? ⟨g,2,none⟩=some c∧w.cell? ⟨g,3,none⟩=some d∧w.cell? ⟨g,4,none⟩=some e:=
  ⟨by rw[h.cell];rfl,by rw[h.cell];rfl,by rw[h.cell];rfl,by rw[h.cell];rfl,by rw[h.cell];rfl⟩
theorem EW (w:World) (n₀ b c mm:Nat) (X:Nat→Prop) (l:List UInt8) (A:Option Addr) (hl:l.length≤900) (h:uY w n₀ X b l A c mm) (hn:n₀≤w.heap.size) (hx:x<t) (ht:t≤l.length) (ho:o=false→x+2≤t) :
    Calls Tryz.prog 234 #[.pointer (some ⟨b,0,none⟩),.agg #[.int .i64 4,.int .i64 (x:Int),.int .i64 (t:Int),.int .i64 u,.bool o]] w fun e w'=>
      e=.returned (.tuple #[.agg #[.bool false,.bool true,.string ⟨(sub l (x+1) (rJ t o)).toArray⟩],.bool true])∧Below w.heap.size w w':=by
  obtain⟨hb1,hb2⟩:=Cy hx ho;obtain⟨E,hE⟩:∃E,E=rJ t o:=⟨_,rfl⟩;rw[←hE] at hb1 hb2 ⊢;have HE:=aa (ac hE (ac ho h));have k1:(x:Int)+1≤(E:Int):=by omega
  have k2:(E:Int)≤(l.length:Int):=by omega
  have k3:(0:Int)≤(x:Int)+1:=by omega
  have k4:((x:Int)+1).toNat=x+1:=by omega
  clear hE ho h;go_enter Tryz.func234,Tryz.ntmps234;go_upto_region 1 with fail
  refine Dv fun W hbW hk1 hk2 hs=>?_
  obtain⟨p0,p1,p2,p3,p4⟩:=ej hk1;have HW:=aa (ac hbW (ac hk1 (ac hk2 hs)));clear hbW hk1 hk2 hs;go_wp2_with (
    (go_at_call 247;refine(vJ _ (.inl rfl) hx HE.out.2.1 (by omega)).mono ?_;rintro e w2 ⟨he,hb2⟩;rw[←HE.out.1] at he;subst he;have hk3:=HW.out.2.2.1.below hb2 HW.out.2.2.1.lt;have hr2:=(HE.out.2.2.below HW.out.1 hn).below hb2 (aA hn HW.out.1.size);have y0:w2.cell? ⟨b,0,none⟩=some (.string ⟨l.toArray⟩):=by rw[hr2.hd.cell];rfl
     obtain⟨_,_,_,f0,f1,f2⟩:=hk3.three;obtain⟨c0,c1,c2,_⟩:=hk3.three;have H2:=aa (ac hb2 hk3);clear hb2 hk3 hr2))
  refine jq H2.out.2 fun F hF hgF x0 x1 x2=>?_
  refine aK (v:=.tuple #[.agg #[.bool false,.bool true,.string ((ByteArray.mk l.toArray).extract (x+1) E)],.bool true]) (by simp[results,Tryz.results234,go_sem,x0,x1,x2]) rfl ⟨?_,?_⟩
  ·rw[dX];rfl
  ·exact(HW.out.1.trans (H2.out.1.mono HW.out.1.size)).grown hgF (by have:=HW.out.1.size;have:=H2.out.1.size;omega) (by intro j hj;injection hj with hj;omega)
def Jr (s:List UInt8):Bool:=decide (s≠[]∧s≠[10])
theorem yn (w:World) (n₀ b c mm:Nat) (X:Nat→Prop) (l:List UInt8) (A:Option Addr) (hl:l.length≤900) (h:uY w n₀ X b l A c mm) (hn:n₀≤w.heap.size) (hx:x<t) (ht:t≤l.length) (ht2:t≤x+2) :
    Calls Tryz.prog 234 #[.pointer (some ⟨b,0,none⟩),.agg #[.int .i64 13,.int .i64 (x:Int),.int .i64 (t:Int),.int .i64 u,.bool o]] w fun e w'=>
      e=.returned (.tuple #[.agg #[.bool false,.bool true,.string ⟨(sub l (x+1) t).toArray⟩],.bool (Jr (sub l (x+1) t))])∧Below w.heap.size w w':=by
  obtain⟨S,hS⟩:∃S,S=sub l (x+1) t:=⟨_,rfl⟩;have hx1:(ByteArray.mk l.toArray).extract (x+1) t=⟨S.toArray⟩:=by rw[dX,hS];rfl
  have hSl:S.length≤1:=by rw[hS,lJ ht];omega
  rw[←hS];clear hS;have k1:(x:Int)+1≤(t:Int):=by omega
  have k2:(t:Int)≤(l.length:Int):=by omega
  have k3:(0:Int)≤(x:Int)+1:=by omega
  have k4:((x:Int)+1).toNat=x+1:=by omega
  have k5:IntKind.i64.wrap ((x:Int)+1)=(x:Int)+1:=aS _ (by omega);have HE:=aa h;clear h;have hc:S=[]∨S=[10]∨∃d,S=[d]∧d≠10:=by
    match S,hSl with
    | [],_=>exact .inl rfl
    | [d],_=>
      by_cases hd:d=10
      ·exact .inr (.inl (by rw[hd]))
      ·exact .inr (.inr ⟨d,rfl,hd⟩)
  clear hSl;rcases hc with rfl|rfl|⟨d,rfl,hd⟩
  ·rw[show Jr []=false from rfl];go_enter Tryz.func234,Tryz.ntmps234;go_upto_region 1 with fail
   refine Dv fun W hbW hk1 hk2 hs=>?_
   obtain⟨p0,p1,p2,p3,p4⟩:=ej hk1;have hr2:=HE.out.below hbW hn;have y0:W.cell? ⟨b,0,none⟩=some (.string ⟨l.toArray⟩):=by rw[hr2.hd.cell];rfl
   obtain⟨_,_,_,f0,f1,f2⟩:=hk2.three;obtain⟨c0,c1,c2,_⟩:=hk2.three;have HW:=aa (ac hbW (ac hk1 (ac hk2 hs)));clear hbW hk1 hk2 hs hr2;go_wp2_with fail;go_quiet (fail);go_wp2_with fail;refine jq (HW.out.2.2.1.drewN _) fun F hF hgF x0 x1 x2=>?_
   exact aK (v:=.tuple #[.agg #[.bool false,.bool true,.string ⟨#[]⟩],.bool false]) (by simp[results,Tryz.results234,go_sem,x0,x1,x2]) rfl ⟨rfl,(dN HW.out.1 _).grown hgF (by have:=HW.out.1.size;simpa using this) (by intro j hj;injection hj with hj;omega)⟩
  ·rw[show Jr [10]=false from rfl];go_enter Tryz.func234,Tryz.ntmps234;go_upto_region 1 with fail
   refine Dv fun W hbW hk1 hk2 hs=>?_
   obtain⟨p0,p1,p2,p3,p4⟩:=ej hk1;have hr2:=HE.out.below hbW hn;have y0:W.cell? ⟨b,0,none⟩=some (.string ⟨l.toArray⟩):=by rw[hr2.hd.cell];rfl
   obtain⟨_,_,_,f0,f1,f2⟩:=hk2.three;obtain⟨c0,c1,c2,_⟩:=hk2.three;have HW:=aa (ac hbW (ac hk1 (ac hk2 hs)));clear hbW hk1 hk2 hs hr2;go_wp2_with fail;go_quiet (fail);go_wp2_with fail;refine jq (HW.out.2.2.1.drewN _) fun F hF hgF x0 x1 x2=>?_
   exact aK (v:=.tuple #[.agg #[.bool false,.bool true,.string ⟨#[10]⟩],.bool false]) (by simp[results,Tryz.results234,go_sem,x0,x1,x2]) rfl ⟨rfl,(dN HW.out.1 _).grown hgF (by have:=HW.out.1.size;simpa using this) (by intro j hj;injection hj with hj;omega)⟩
  ·rw[show Jr [d]=true by unfold Jr;simp[hd]];go_enter Tryz.func234,Tryz.ntmps234;go_upto_region 1 with fail
   refine Dv fun W hbW hk1 hk2 hs=>?_
   obtain⟨p0,p1,p2,p3,p4⟩:=ej hk1;have hr2:=HE.out.below hbW hn;have y0:W.cell? ⟨b,0,none⟩=some (.string ⟨l.toArray⟩):=by rw[hr2.hd.cell];rfl
   obtain⟨_,_,_,f0,f1,f2⟩:=hk2.three;obtain⟨c0,c1,c2,_⟩:=hk2.three;have HW:=aa (ac hbW (ac hk1 (ac hk2 hs)));clear hbW hk1 hk2 hs hr2;go_wp2_with fail;go_quiet (fail);go_wp2_with fail;refine jq (HW.out.2.2.1.drewN _) fun F hF hgF x0 x1 x2=>?_
   exact aK (v:=.tuple #[.agg #[.bool false,.bool true,.string ⟨#[d]⟩],.bool true]) (by simp[results,Tryz.results234,go_sem,x0,x1,x2,hd]) rfl ⟨rfl,(dN HW.out.1 _).grown hgF (by have:=HW.out.1.size;simpa using this) (by intro j hj;injection hj with hj;omega)⟩
def Ky (x:Pc):List Value:=[.bool x.ex,.bool x.qu,.string ⟨x.tx.toArray⟩]
def fm (L:List Pc):List Value:=L.flatMap Ky
theorem yx (L:List Pc):(fm L).length=L.length*3:=by
  induction L with
  | nil=>rfl
  | cons x r ih=>simp[fm,Ky] at ih ⊢;omega
theorem gV (L M:List Pc):fm (L++M)=fm L++fm M:=by simp[fm]
theorem gI (L:List Pc):∀u∈fm L,u.oneCell'=true:=by
  intro u hu;simp only[fm,dG] at hu;obtain⟨x,_,hx⟩:=hu;simp only[Ky,br,List.not_mem_nil,or_false] at hx;rcases hx with rfl|rfl|rfl<;>rfl
theorem qj:∀(L:List Pc) (k:Nat) (x:Pc),L[k]? = some x→∀(j:Nat) (u:Value),(Ky x)[j]? = some u→(fm L)[k*3+j]? = some u
  | [],_,_,h,_,_,_=>by cases h
  | y::r,0,x,h,j,u,hj=>by
    simp only[aN,Option.some.injEq] at h;subst h;have hl:j<(Ky y).length:=(ay.1 hj).1;simp only[fm,List.flatMap_cons,Nat.zero_mul,cM];rw[aW hl];exact hj
  | y::r,k+1,x,h,j,u,hj=>by
    simp only[cC] at h
    have:=qj r k x h j u hj
    simp only[fm,List.flatMap_cons] at this ⊢;rw[aX (by simp[Ky];omega)];rw[←this];congr 1;simp[Ky];omega
theorem Dh (L:List Pc) (k:Nat) (hk:k≤L.length):(fm L).take (k*3)=fm (L.take k):=by
  conv=>lhs;rw[←dr k L]
  rw[gV,List.take_append_of_le_length (by rw[yx];simp;omega),bR (by rw[yx];simp;omega)]
theorem Kq {L:List Pc} (h:Rd w B 3 (.slice A n c) n (fm L)) {x:Pc} (hk:L[k]? = some x) (hn:n=L.length) :
    ∃g o,A=some ⟨g,o,none⟩∧g<B∧w.cell? ⟨g,o+k*3,none⟩=some (.bool x.ex)∧w.cell? ⟨g,o+k*3+1,none⟩=some (.bool x.qu)∧w.cell? ⟨g,o+k*3+2,none⟩=some (.string ⟨x.tx.toArray⟩):=by
  obtain⟨h1,A',c',h2,h3,h4,h5,h6⟩:=h
  cases h2;have hkl:=(ay.1 hk).1;obtain⟨g,o,ha,hg,hc⟩:=h6 (by omega);refine⟨g,o,ha,hg,?_,?_,?_⟩
  ·have:=hc (k*3) _ (by simpa using qj L k x hk 0 _ rfl)
   simpa [dE] using this
  ·have:=hc (k*3+1) _ (qj L k x hk 1 _ rfl)
   simpa [dE] using this
  ·have:=hc (k*3+2) _ (qj L k x hk 2 _ rfl)
   simpa [dE] using this
theorem Tryz.infoPiece:(Tryz.prog.info? 142).map (fun i=>(i.zero,i.size,i.bytes))=some (some (.agg #[.bool false,.bool false,.string ⟨#[]⟩]),3,24):=by kernel_rfl
theorem oB (w:World) (B:Nat) (e:TypeId) (sz:Nat) (hB:B≤w.heap.size):(w.alloc (.cells #[] e)).ownsRow B e sz (.slice (some ⟨w.heap.size,0,none⟩) 0 0) 0 []:=
  ⟨by simp,.inr ⟨w.heap.size,0,#[],rfl,hB,Bk.new _ _ _,au _,by unfold maxLen;omega,by simp,by simp⟩⟩
section
open Go.RowKit
attribute [local go_sem] Oper.semAt_some
theorem nh {N:Nat} {l:List UInt8} (h:W.ownsRow N 5 1 v l.length (fz l)) :
    (Go.convert 63 9 v).run Tryz.prog W=.ok (.string ⟨l.toArray⟩) W:=by
  rcases h.2 with ⟨rfl,h0⟩|⟨g,cap,cur,rfl,_⟩
  ·obtain rfl:=bP h0;rw[run_convert_bytes_string W _ _ _ none 0 0 Tryz.underlying63 Tryz.underlying5 Tryz.underlying9];rfl
  ·refine run_convert_bytes_back (P:=Tryz.prog) W 63 9 5 ⟨g,0,none⟩ cap l Tryz.underlying63 Tryz.underlying5 Tryz.underlying9 ?_;intro j hj;rw[Addr.add_lit,cM];refine dW h j _ ?_;rw[fz,bc,ax hj];rfl
abbrev sG (x:Pc):Array Value:=#[.agg #[.bool x.ex,.bool x.qu,.string ⟨x.tx.toArray⟩]]
def YW (l':Nat) (N:List Pc) (n₀:Nat) (Xc:Nat→Prop) (J Jx:(Nat→Prop)→List Pc→World→Prop):Prop:=
  ∀X pre x W1,J X pre W1→pre++[x]<+:N→∀m,YieldAt Fence.wide m Tryz.prog l' (sG x) W1 fun e W'=>
   (e=.returned (.bool true)∧J X (pre++[x]) W'∧eN n₀ Xc W1 W'∧∀k,X k→W'.heap[k]? = W1.heap[k]?)∨(e=.returned (.bool false)∧Jx X (pre++[x]) W'∧eN n₀ Xc W1 W'∧∀k,X k→W'.heap[k]? = W1.heap[k]?)
structure It (W:World) (X:Nat→Prop) (p y l':Nat) (buf:List UInt8) (v:Value):Prop where
  pb:Bk W p 63 #[v]
  own:W.ownsRow 0 5 1 v buf.length (fz buf)
  yb:Bk W y 204 #[.func (.yield l') #[] #[]]
  xp:X p
  xy:X y
  xv:∀k,v.ownBlock=some k→X k
theorem It.same (h:It W X p y l' buf v) (hXY:∀k,X k→Y k) (hs:∀k,X k→W'.heap[k]? = W.heap[k]?):It W' Y p y l' buf v:=by
  refine⟨(hs p h.xp).trans h.pb,⟨h.own.1,?_⟩,(hs y h.xy).trans h.yb,hXY _ h.xp,hXY _ h.xy,fun k hk=>hXY k (h.xv k hk)⟩;rcases h.own.2 with h2|⟨g,cap,cur,he,hg,hh,r⟩
  ·exact .inl h2
  ·exact .inr ⟨g,cap,cur,he,hg,(hs g (h.xv g (by rw[he];rfl))).trans hh,r⟩
theorem It.below (h:It W X p y l' buf v) (hXY:∀k,X k→Y k) (hb:Below W.heap.size W W'):It W' Y p y l' buf v:=by
  refine⟨h.pb.below hb h.pb.lt,dS h.own hb,h.yb.below hb h.yb.lt,hXY _ h.xp,hXY _ h.xy,fun k hk=>hXY k (h.xv k hk)⟩
theorem It.ne (h:It W X p y l' buf v):p≠y:=by
  intro e;have h1:=h.pb;have h2:=h.yb;unfold Bk at h1 h2;rw[e,h2] at h1;injection h1 with h1
  injection h1 with _ h1
  exact absurd h1 (by decide)
theorem It.put (h:It W X p y l' buf v) (ho:W.ownsRow 0 5 1 v' buf'.length (fz buf')) (hv:∀k,v'.ownBlock=some k→X k):It (W.setCell ⟨p,0,none⟩ v') X p y l' buf' v':=
  ⟨by simpa using h.pb.set 0 v',ff ho (eQ ho h.pb (by decide)) _,h.yb.far h.ne.symm _,h.xp,h.xy,hv⟩
structure uZ (J:(Nat→Prop)→List Pc→World→Prop) (W:World) (n₀:Nat) (Xc X:Nat→Prop) (pre:List Pc) (p y l':Nat) (buf:List UInt8) (v:Value) (b:Nat) (l:List UInt8) (A:Option Addr) (c m:Nat):Prop where
  j:J X pre W
  it:It W X p y l' buf v
  rd:uY W n₀ Xc b l A c m
  xn:∀k,X k→n₀≤k∧k<W.heap.size
  wn:n₀≤W.heap.size
theorem uZ.below (hF:kH J) {l:List UInt8} (h:uZ J W n₀ Xc X pre p y l' buf v b l A c m) (hb:Below W.heap.size W W'):uZ J W' n₀ Xc (iV X W W') pre p y l' buf v b l A c m:=
  ⟨hF _ _ _ _ h.j (XG.of_below hb),h.it.below (fun k hk=>.inl hk) hb,h.rd.below hb h.wn,fun k hk=>by
    rcases hk with hk|hk
    ·have:=h.xn k hk;have:=hb.size;omega
    ·have:=h.wn;omega,aA h.wn hb.size⟩
theorem uZ.put (hF:kH J) {l:List UInt8} (h:uZ J W n₀ Xc X pre p y l' buf v b l A c m) (ho:W.ownsRow 0 5 1 v' buf'.length (fz buf')) (hv:∀k,v'.ownBlock=some k→X k):uZ J (W.setCell ⟨p,0,none⟩ v') n₀ Xc (iV X W (W.setCell ⟨p,0,none⟩ v')) pre p y l' buf' v' b l A c m:=by
  have hx:XG X W (W.setCell ⟨p,0,none⟩ v'):=(XG.refl X W).set (.inl h.it.xp) 0 v';have hit:=h.it.put ho hv;refine⟨hF _ _ _ _ h.j hx,⟨hit.pb,hit.own,hit.yb,.inl hit.xp,.inl hit.xy,fun k hk=>.inl (hit.xv k hk)⟩,?_,fun k hk=>by
    have hsz:(W.setCell ⟨p,0,none⟩ v').heap.size=W.heap.size:=by simp[World.setCell]
    rcases hk with hk|hk
    ·have:=h.xn k hk;omega
    ·have:=h.wn;omega,by have:=h.wn;simpa [World.setCell] using this⟩
  exact h.rd.keep ((eN.refl _ _ _).set (.inl (h.xn _ h.it.xp).1) 0 v')
theorem uZ.next {l:List UInt8} (h:uZ J W n₀ Xc X pre p y l' buf v b l A c m) (hj:J' X pre' W') (hk:eN n₀ Xc W W') (hs:∀k,X k→W'.heap[k]? = W.heap[k]?):uZ J' W' n₀ Xc X pre' p y l' buf v b l A c m:=
  ⟨hj,h.it.same (fun _ hk=>hk) hs,h.rd.keep hk,fun k hk'=>⟨(h.xn k hk').1,bA (h.xn k hk').2 hk.size⟩,aA h.wn hk.size⟩
theorem nR (n l':Nat) (N:List Pc) (n₀ p y b c m:Nat) (Xc X:Nat→Prop) (l:List UInt8) (A:Option Addr) (J Jx:(Nat→Prop)→List Pc→World→Prop) (hF:kH J) (hY:YW l' N n₀ Xc J Jx) (W:World) (pre:List Pc) (buf:List UInt8) (v:Value)
    (h:uZ J W n₀ Xc X pre p y l' buf v b l A c m) (hN:buf≠[]→pre++[⟨false,false,buf⟩]<+:N) :
    CallsIn Fence.wide n Tryz.prog 231 #[.pointer (some ⟨p,0,none⟩),.pointer (some ⟨y,0,none⟩)] W fun e W'=>
      (e=.returned (.bool true)∧∃X',(∀k,X k→X' k)∧(∀k,X k→k≠p→W'.heap[k]? = W.heap[k]?)∧eN n₀ Xc W W'∧uZ J W' n₀ Xc X' (pre++oY buf) p y l' [] (.slice none 0 0) b l A c m)∨(e=.returned (.bool false)∧∃X',Jx X' (pre++oY buf) W'):=by
  have hcv:=nh h.it.own;have y0:W.cell? ⟨p,0,none⟩=some v:=by rw[h.it.pb.cell];rfl
  have f0:=h.it.pb.frozen 0;have y1:W.cell? ⟨y,0,none⟩=some (.func (.yield l') #[] #[]):=by rw[h.it.yb.cell];rfl
  have hne:¬y=p:=fun e=>h.it.ne e.symm
  have h2:=h.put hF (buf':=[]) (v':=.slice none 0 0) (cj _ _ _ _) (by intro k hk;simp[Value.ownBlock] at hk);obtain⟨A1,n1,c1,hv⟩:=dR h.it.own;subst hv;have H:=aa (ac h (ac h2 (ac hY hN)));clear h h2 hY hN
  cases buf with
  | nil=>
    refine dk Tryz.func231 rfl trivial ?_ rfl;simp only[Tryz.ntmps231,bU,aP,bI,Nat.reduceAdd,Nat.reduceSub,bE,bF,bV,bJ,bT,bu];gi_wp2_with fail;refine⟨(fun f h=>by cases h),?_⟩;gi_wp2_with fail;refine aK (dv rfl _ _ _) rfl ?_;refine .inl ⟨rfl,iV X W (W.setCell ⟨p,0,none⟩ (.slice none 0 0)),fun k hk=>.inl hk,fun k _ hk=>bK _ _ _ k hk,(eN.refl _ _ _).set (.inl (H.out.1.xn _ H.out.1.it.xp).1) 0 _,?_⟩;rw[show oY []=[] from rfl,bz];exact H.out.2.1
  | cons a r=>
    obtain⟨fn,tmps,assign,body,hy,hR⟩:=H.out.2.2.1 _ pre ⟨false,false,a::r⟩ _ H.out.2.1.j (H.out.2.2.2 (by simp)) (n-1);have hR2:=aa hR;clear hR;simp only[sG] at hy;have hy2:=aa hy;clear hy;refine dk Tryz.func231 rfl trivial ?_ rfl;simp only[Tryz.ntmps231,bU,aP,bI,Nat.reduceAdd,Nat.reduceSub,bE,bF,bV,bJ,bT,bu];gi_wp2_with fail;rw[hy2.out];gi_wp2_with fail;refine⟨fun h=>by simp[Fence.wide] at h,?_⟩;refine hR2.out.mono ?_;rintro e W3 (⟨rfl,hJ3,hk3,hs3⟩|⟨rfl,hJx3,hk3,hs3⟩)
    ·have H3:=aa (ac (H.out.2.1.next hJ3 hk3 hs3) (ac hs3 hk3));clear hJ3 hk3 hs3;gi_wp2_with fail;refine aK (dv rfl _ _ _) rfl ?_;exact .inl ⟨rfl,iV X W (W.setCell ⟨p,0,none⟩ (.slice none 0 0)),fun k hk=>.inl hk,fun k hk hkp=>(H3.out.2.1 k (.inl hk)).trans (bK _ _ _ k hkp),((eN.refl _ _ _).set (.inl (H.out.1.xn _ H.out.1.it.xp).1) 0 _).trans H3.out.2.2,H3.out.1⟩
    ·have H3:=aa hJx3;clear hJx3 hk3 hs3;gi_wp2_with fail;refine aK (dv rfl _ _ _) rfl ?_;exact .inr ⟨rfl,iV X W (W.setCell ⟨p,0,none⟩ (.slice none 0 0)),H3.out⟩
end
end Go.Proofs.YtcagfamdoaoimaaGreatDoor
