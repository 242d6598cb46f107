/- Paint: classes tells the classes of a text's bytes. -/
import Derived.Test.YtgdifhhioahakaaGreatDoorWd24
import Derived.Test.YtgdifhhioahakaaGreatDoorPc24
namespace Go.Proofs.YtgdifhhioahakaaGreatDoor
open Go.RowKit
set_option linter.unusedVariables false
set_option linter.unusedSimpArgs false
set_option maxRecDepth 100000
attribute [local go_sem] Oper.semAt_some
theorem Gd.node24 {N A k:Nat} {s:Ps} {f:Ps→Ps} (h:∀t:Ps,t.p=s.p→t.deep=s.deep→Gd N A t (f t)) (hk:1≤k∧k≤16:=by decide):Gd N (A+1) s (nodeP k f s):=Gd.node (h _ rfl rfl) ⟨hk.1,by omega,fun e=>by omega,fun e=>by omega⟩
theorem gd_parse24 (F:List Lf):Gd F.length 5 (ps0 0) (parseT F)∧(parseT F).p=F.length:=by
  have h:=fun t (ht:t.p=(ps0 0).p)=>gd_prog (gd_lstF F (F.length+1)) _ (t,false) rfl (by rw[ht];exact Nat.zero_le _)
  exact⟨Gd.node24 (A:=4) fun t ht _=>(h t ht).1,(h {ps0 0 with l:=(ps0 0).l++[⟨1,(ps0 0).p,0,(ps0 0).up⟩],up:=((ps0 0).l.length:Int)} rfl).2⟩
theorem parse_len24 (F:List Lf):(parseT F).l.length≤16*F.length+5:=by
  obtain⟨h1,h2⟩:=gd_parse24 F
  have h3:=h1.b
  rw[h2] at h3
  have e1:(ps0 0).l.length=0:=rfl
  have e2:(ps0 0).p=0:=rfl
  omega
theorem tile_at24 {l:List UInt8}:∀{ts:List Tk} {x:Nat} (_:tileP l ts x) (i:Nat) (t:Tk),ts[i]? = some t→x≤t.fr∧t.fr<t.to∧t.to≤l.length∧1≤t.kd∧t.kd≤7
  | [],x,h,i,t,hi=>by simp at hi
  | a::r,x,⟨h1,h2,h3,h4,h5,h6⟩,0,t,hi=>by
    simp at hi
    subst hi
    omega
  | a::r,x,⟨h1,h2,h3,h4,h5,h6⟩,i+1,t,hi=>by
    have:=tile_at24 h6 i t (by simpa using hi)
    omega
theorem leaves_cnt (l:List UInt8):∀(ts:List Tk) (x:Nat),tileP l ts x→(leavesZ l (ts.map tz3)).length=ts.countP fun t=>isLf t.kd
  | [],x,_=>rfl
  | t::r,x,⟨h1,h2,h3,h4,h5,h6⟩=>by
    have ih:=leaves_cnt l r t.to h6
    have hz:inZ l (tz3 t)=true:=by
      unfold inZ tz3
      simp only[Bool.and_eq_true,decide_eq_true_eq]
      omega
    have e:leafK (tz3 t).kd=isLf t.kd:=by
      have hk:t.kd=1∨t.kd=2∨t.kd=3∨t.kd=4∨t.kd=5∨t.kd=6∨t.kd=7:=by omega
      show leafK (t.kd:Int)=_
      rcases hk with h|h|h|h|h|h|h<;>rw[h]<;>rfl
    have e2:(leafZ l (tz3 t)).length=if isLf t.kd=true then 1 else 0:=by
      unfold leafZ
      rw[hz,e]
      cases isLf t.kd<;>simp
    show (leafZ l (tz3 t)++leavesZ l (r.map tz3)).length=_
    rw[List.length_append,ih,List.countP_cons,e2]
    omega
theorem tree24 (F:List Lf) (hF:F.length≤900):(parseT F).l.length≤90000∧(∀x∈(parseT F).l,x.up<((parseT F).l.length:Int))∧(parseT F).l[0]? = some ⟨1,0,F.length, -1⟩:=by
  obtain⟨h1,r,h2⟩:=parse_row F
  have h3:=parse_len24 F
  refine⟨by omega,fun x hx=>?_,by rw[h2];rfl⟩
  obtain⟨i,hi,e⟩:=List.mem_iff_getElem.1 hx
  have hi2:(parseT F).l[i]? = some x:=by rw[List.getElem?_eq_getElem hi,e]
  by_cases h0:0<i
  ·obtain⟨u,m,hu,hlt,_⟩:=(h1 i x hi2).u h0
   omega
  ·obtain rfl:i=0:=by omega
   rw[h2] at hi2
   simp at hi2
   rw[←hi2]
   show (-1:Int)<_
   omega
theorem nodeT_lt {F:List Lf} {t:Tk} {k:Nat} (hk:isLf t.kd=true→k<F.length) (L:List Nd) (hL:L=(parseT F).l):nodeT L t k<L.length∧(isLf t.kd=true→coverF L k L.length=(nodeT L t k:Int)):=by
  obtain⟨_,r,h2⟩:=parse_row F
  rw[←hL] at h2
  have h0:L[0]? = some ⟨1,0,F.length, -1⟩:=by rw[h2];rfl
  have hl:0<L.length:=by rw[h2];simp
  unfold nodeT
  by_cases h:isLf t.kd=true
  ·rw[if_pos h]
   obtain⟨n,hn⟩:∃n,L.length=n+1:=⟨L.length-1,by omega⟩
   have:=coverF_rng (lf:=k) h0 (Nat.zero_le _) (hk h) n (by omega)
   rw[hn]
   exact⟨by omega,fun _=>by omega⟩
  ·rw[if_neg h]
   exact⟨hl,fun h'=>absurd h' h⟩
theorem pcover_m (F:List Lf) (L:List Nd) (hL:L=(parseT F).l) (t:Tk) (A:Option Addr) (M:Value) (c g kk:Nat) (w:World) (h1:1≤t.kd) (h7:t.kd≤7) (hF:F.length≤900) (hk:isLf t.kd=true→kk<F.length) (hb:Bk w g 67 #[.slice A L.length c,.int .i64 (kk:Int),M]) (hR:Rt w 76 4 (.slice A L.length c) L.length (ndcs L)) :
    Calls Tryz.prog 30 #[.pointer (some ⟨g,0,none⟩),.agg #[.int .i64 (t.kd:Int),.int .i64 (t.fr:Int),.int .i64 (t.to:Int),.bool t.op]] w fun e w'=>e=.returned (.int .i64 (nodeT L t kk:Int))∧Pcv w w' g (.slice A L.length c) M (if isLf t.kd=true then kk+1 else kk):=by
  have hn:=nodeT_lt hk L hL
  have hlen:=(tree24 F hF).1
  rw[←hL] at hlen
  by_cases h:isLf t.kd=true
  ·rw[if_pos h,←hn.2 h]
   refine pcover_yes L A M c g kk (t.kd:Int) t.fr t.to t.op w ?_ hb (by omega) (by have:=hk h;omega) hR
   have hk:t.kd=1∨t.kd=2∨t.kd=3∨t.kd=4∨t.kd=5∨t.kd=6∨t.kd=7:=by omega
   rcases hk with e|e|e|e|e|e|e<;>rw[e] at h ⊢ <;> first|(exact absurd h (by decide))|simp
  ·rw[if_neg h]
   have e0:nodeT L t kk=0:=by unfold nodeT;rw[if_neg h]
   rw[e0]
   refine pcover_no (.slice A L.length c) M g kk (t.kd:Int) t.fr t.to t.op w ?_ hb
   have hk:t.kd=1∨t.kd=2∨t.kd=3∨t.kd=4∨t.kd=5∨t.kd=6∨t.kd=7:=by omega
   rcases hk with e|e|e|e|e|e|e<;>rw[e] at h ⊢ <;> first|(exact absurd rfl h)|simp
theorem pwhole_m (L:List Nd) (t:Tk) (A:Option Addr) (c nd g m:Nat) (kk:Int) (w:World) (h1:1≤t.kd) (h7:t.kd≤7) (hL:L.length≤90000) (hnd:nd<L.length) (hb:Bk w g 67 #[.slice A L.length c,.int .i64 kk,.map (some m)]) (hR:Rd w w.heap.size 4 (.slice A L.length c) L.length (ndcs L)) :
    Calls Tryz.prog 31 #[.pointer (some ⟨g,0,none⟩),.agg #[.int .i64 (t.kd:Int),.int .i64 (t.fr:Int),.int .i64 (t.to:Int),.bool t.op],.int .i64 (nd:Int)] w fun e w'=>e=.returned (.int .i64 (wholeC t.kd (kdA L nd):Int))∧Below w.heap.size w w':=by
  obtain⟨x,hx⟩:∃x,L[nd]? = some x:=⟨_,List.getElem?_eq_getElem hnd⟩
  have e:kdA L nd=x.kd:=by unfold kdA;rw[hx]
  rw[e]
  have:=whole24_m L A c nd g m kk (t.kd:Int) t.fr t.to t.op x w (by omega) hb (by omega) hR hx
  rwa [Int.toNat_natCast] at this
structure C24 (W:World) (X:Nat→Prop) (L:List Nd) (A:Option Addr) (c g m:Nat) (kk:Nat) (v1:Value) (ts:List Tk):Prop where
  pw:Pw W X L A c g m kk
  o:W.ownsRow 0 69 4 v1 ts.length (tkcs ts)
  x:∀k,v1.ownBlock=some k→X k
section
variable {J:(Nat→Prop)→List Nat→World→Prop} {W W' wr:World} {n₀:Nat} {Xc X X' Y:Nat→Prop} {pr:List Nat} {L:List Nd} {A:Option Addr} {c g m:Nat} {kk kk':Nat} {v1 S M:Value} {ts:List Tk}
theorem C24.same (h:C24 W X L A c g m kk v1 ts) (hXY:∀k,X k→Y k) (hs:∀k,X k→W'.heap[k]? = W.heap[k]?):C24 W' Y L A c g m kk v1 ts:=
  ⟨h.pw.same hXY hs,own_same h.o fun k hk=>hs k (h.x k hk),fun k hk=>hXY k (h.x k hk)⟩
theorem C24.below (h:C24 W X L A c g m kk v1 ts) (hb:Below W.heap.size W W') (hx:∀k,X k→k<W.heap.size):C24 W' (xNew X W W') L A c g m kk v1 ts:=
  h.same (fun k hk=>.inl hk) fun k hk=>hb.block k (hx k hk)
theorem IM.ne {w:World} {b n g:Nat} {f:Int→Int} {t:TypeId} {cs:Array Value} (h:IM w b n f) (hg:Bk w g t cs):b≠g:=by
  obtain⟨D,⟨es,clock,h1,h2⟩,hm,hat⟩:=h
  intro e
  subst e
  unfold Bk at hg
  rw[h1] at hg
  cases hg
theorem Pcv.grown (h:Pcv W W' g S M kk):W.grownBy W' (some g):=
  ⟨h.be.1,h.be.2,h.be.3,h.sz,fun k hk hne=>h.eq k hk (fun e=>hne (by rw[e]))⟩
theorem Pcv.xg (h:Pcv W W' g S M kk) (hg:X g):XG X W W':=
  ⟨h.be.1,h.be.2,h.be.3,h.sz,fun k hk hx=>h.eq k hk (fun e=>hx (by rw[e];exact hg))⟩
theorem C24.cover (h:C24 W X L A c g m kk v1 ts) (hp:Pcv W W' g (.slice A L.length c) (.map (some m)) kk'):C24 W' (xNew X W W') L A c g m kk' v1 ts:=by
  obtain⟨q,hq⟩:=h.pw.mp
  refine⟨⟨hp.bk,h.pw.nd.keep hp.grown (h.pw.bk.row (by decide)),⟨q,hq.kept (hp.eq m hq.lt (hq.ne h.pw.bk))⟩,.inl h.pw.xg,.inl h.pw.xm,fun b hb=>.inl (h.pw.xa b hb)⟩,?_,fun k hk=>.inl (h.x k hk)⟩
  exact own_same h.o fun k hk=>hp.eq k (h.o.lt k hk).2 (fun e=>own_ne h.o h.pw.bk (by decide) (by rw[hk,e]))
theorem D24.write (hF:Fits J) (h:D24 J W wr n₀ Xc (fun _=>False) X' pr) (hx:XG X' wr W'):D24 J W W' n₀ Xc (fun _=>False) (xNew X' wr W') pr:=by
  have hw:=Nat.le_trans h.wn h.kx.size
  exact⟨hF _ _ _ _ h.j hx,fun _ hk=>hk.elim,fun _ hk=>hk.elim,h.kx.trans ⟨hx.size,fun k hk _=>hx.block k (by omega) (fun hX=>by have:=(h.xn k hX).1;omega)⟩,fun k hk=>by
    rcases hk with hk|hk
    ·have:=h.xn k hk;have:=hx.size;omega
    ·omega,h.wn⟩
end
theorem clsF_cons (l:List UInt8) (L:List Nd) (t:Tk) (r:List Tk) (k:Nat):clsF l L (t::r) k=tokC l L t k++clsF l L r (if isLf t.kd=true then k+1 else k):=rfl
theorem tokC_word {l:List UInt8} {L:List Nd} {t:Tk} {k:Nat} (h:wholeC t.kd (kdA L (nodeT L t k))=0):tokC l L t k=(List.range (t.to-t.fr)).map (wordC (sub l t.fr t.to) (kdA L (nodeT L t k)) (cmdW L (nodeT L t k))):=by unfold tokC;rw[if_pos h]
theorem tokC_whole {l:List UInt8} {L:List Nd} {t:Tk} {k:Nat} (h:wholeC t.kd (kdA L (nodeT L t k))≠0):tokC l L t k=List.replicate (t.to-t.fr) (wholeC t.kd (kdA L (nodeT L t k))):=by unfold tokC;rw[if_neg h]
theorem rep_pre {α:Type} (a:α) {u n:Nat} (h:u≤n) (pre post:List α):pre++List.replicate u a<+:pre++(List.replicate n a++post):=by
  obtain⟨d,rfl⟩:∃d,n=u+d:=⟨n-u,by omega⟩
  refine⟨List.replicate d a++post,?_⟩
  rw[←List.replicate_append_replicate,List.append_assoc,List.append_assoc]
set_option maxHeartbeats 8000000 in
theorem classes_in (n l' Bn n₀:Nat) (Xc:Nat→Prop) (l:List UInt8) (J Jx:(Nat→Prop)→List Nat→World→Prop) (hF:Fits J) (hY:YC l' (clsT l) n₀ Xc J Jx) (hl:l.length≤900) (W:World) (hBn:Bk W Bn 9 #[.string ⟨l.toArray⟩]) (hB1:Bn<n₀∧¬Xc Bn) (wn:n₀≤W.heap.size) (h0:J (fun _=>False) [] W) :
    CallsIn Fence.wide n Tryz.prog 25 #[.func (.yield l') #[] #[],.pointer (some ⟨Bn,0,none⟩)] W fun e W'=>(∃v,e=.returned v)∧((∃xs X,xs=clsT l∧J X xs W')∨(∃pre X,True∧Jx X pre W')):=by
  obtain⟨F,hFe⟩:∃F,F=lvs3 l:=⟨_,rfl⟩
  obtain⟨L,hLe⟩:∃L,L=(parseT F).l:=⟨_,rfl⟩
  obtain⟨ts,hts⟩:∃ts,ts=(lexL l).1:=⟨_,rfl⟩
  have hfb:=lvs3_fb l hl
  have htile:=tile_lexL l
  have hcnt:=leaves_cnt l _ 0 htile
  have hcls:clsT l=clsF l L ts 0:=by rw[hLe,hFe,hts];rfl
  have c1:=fun W=>lex_m l W hl
  have c2:=fun (A:Option Addr) (c:Nat) W (hR:Rd W W.heap.size 4 (.slice A ((lexL l).1.map tz3).length c) ((lexL l).1.map tz3).length (((lexL l).1.map tz3).flatMap tzc))=>leaves_z l ((lexL l).1.map tz3) A c W (by omega) (by rw[List.length_map];have:=lexL_len l;omega) hR
  have c3:=fun fv W (hR:Rd W W.heap.size 4 fv (lvs3 l).length (lfcs (lvs3 l)))=>parse_m (lvs3 l) fv W hfb hR
  have hlen:=lexL_len l
  rw[show leavesZ l ((lexL l).1.map tz3)=lvs3 l from rfl] at c2 hcnt
  rw[List.length_map,←tkcs_tz3] at c2
  have ht24:=tree24 _ hfb.n
  have hFn:=hfb.n
  clear hfb
  rw[←hts] at c1 c2 hcnt htile hlen
  rw[←hFe] at c2 c3 ht24 hcnt hFn
  rw[←hLe] at c3 ht24
  have c4:=fun (A:Option Addr) (c n:Nat) W hn (hR:Rd W W.heap.size 4 (.slice A n c) n (ndcs L))=>starts_m L A c n W ht24.1 hn ht24.2.1 hR
  obtain⟨Y,hYY⟩:∃Y,Y=(lexL l).2:=⟨_,rfl⟩
  rw[←hYY] at c1
  have y0:W.cell? ⟨Bn,0,none⟩=some (.string ⟨l.toArray⟩):=by rw[hBn.cell];rfl
  have hBlt:=hBn.lt
  have HC:=Lib.hid (And.intro c1 (And.intro c2 (And.intro c3 c4)))
  have HP:=Lib.hid (And.intro hcls (And.intro htile (And.intro hcnt (And.intro ht24 hLe))))
  have HK:=Lib.hid (And.intro hY (And.intro hBn (And.intro hB1 h0)))
  clear c1 c2 c3 c4 hcls htile hcnt ht24 hLe hFe hts hYY hY hBn hB1 h0
  refine callsIn_of_wp Tryz.func25 rfl trivial ?_ rfl
  simp only[Tryz.ntmps25,List.size_toArray,List.length_cons,List.length_nil,Nat.reduceAdd,Nat.reduceSub,Array.replicate_succ,Array.replicate_zero,List.push_toArray,List.append_toArray,List.nil_append,List.cons_append]
  gi_wp2_with (first
    | (refine⟨trivial,fun h=>by simp[Fence.wide] at h,?_⟩
       gi_at_call 26
       refine(callsIn_wide.2 (HC.out.1 _)).mono ?_
       rintro e w1 ⟨v1,v2,rfl,ho,⟨v3,rfl,hr⟩,hb⟩
       obtain⟨A1,n1,c1,rfl⟩:=own_form' ho
       obtain rfl:=own_len ho
       obtain⟨A3,c3,rfl⟩:=hr.form
       unfold lxv
       have hba:Below w1.heap.size w1 (w1.alloc (.cells #[.int .i64 Y.aw,.slice A3 Y.pd.length c3,.bool Y.bd] 56)):=(Below.refl _ w1).alloc (Nat.le_refl _) _
       have k0:=(HK.out.2.1.below hb hBlt).below hba (by have:=hb.size;omega)
       have y0:(w1.alloc (.cells #[.int .i64 Y.aw,.slice A3 Y.pd.length c3,.bool Y.bd] 56)).cell? ⟨Bn,0,none⟩=some (.string ⟨l.toArray⟩):=by rw[k0.cell];rfl
       have H1:=Lib.hid (And.intro (own_below ho hba) (hb.trans (hba.mono hb.size)))
       clear ho hb hr hba k0)
    | (refine⟨trivial,fun h=>by simp[Fence.wide] at h,?_⟩
       gi_at_call 28
       refine(callsIn_wide.2 (HC.out.2.1 _ _ _ (Rd.of_own H1.out.1))).mono ?_
       rintro e w2 ⟨v2,rfl,ho,hb⟩
       have H2:=Lib.hid (And.intro (own_below H1.out.1 hb) (And.intro ho (H1.out.2.trans (hb.mono H1.out.2.size))))
       clear ho hb)
    | (refine⟨trivial,fun h=>by simp[Fence.wide] at h,?_⟩
       gi_at_call 27
       refine(callsIn_wide.2 (HC.out.2.2.1 _ _ (Rd.of_own H2.out.2.1))).mono ?_
       rintro e w3 ⟨v3,rfl,ho,hb⟩
       obtain⟨A4,n4,c4,rfl⟩:=own_form' ho
       obtain rfl:=own_len ho
       have hb3:=H2.out.2.2.trans (hb.mono H2.out.2.2.size)
       have H3:=Lib.hid (And.intro (own_below H2.out.1 hb) (And.intro (own_base ho H2.out.2.2.size) hb3))
       clear ho hb hb3)
    | (refine⟨trivial,fun h=>by simp[Fence.wide] at h,?_⟩
       gi_at_call 29
       refine(callsIn_wide.2 (HC.out.2.2.2 _ _ _ _ rfl (Rd.of_own H3.out.2.1))).mono ?_
       rintro e w4 ⟨m,q,rfl,hm,him,hb⟩
       have H4:=Lib.hid (And.intro hm (And.intro him hb))
       clear hm him hb))
  obtain⟨w5,hw5⟩:∃w5:World,w5=w4.alloc (.cells #[.slice A4 L.length c4,.int .i64 0,.map (some m)] 67):=⟨_,rfl⟩
  have hst:∃X,D24 J W w5 n₀ Xc (fun _=>False) X []∧C24 w5 X L A4 c4 w4.heap.size m 0 (.slice A1 ts.length c1) ts:=by
    obtain⟨ho1,ho3,hb3⟩:=H3.out
    obtain⟨hm,him,hb4⟩:=H4.out
    have hb5:Below w4.heap.size w4 w5:=by rw[hw5];exact(Below.refl _ _).alloc (Nat.le_refl _) _
    have hb34:=hb3.trans (hb4.mono hb3.size)
    have hb35:=hb34.trans (hb5.mono hb34.size)
    have hs5:w5.heap.size=w4.heap.size+1:=by rw[hw5];simp
    have d:=(D24.start (Xc:=Xc) HK.out.2.2.2 (fun k hk=>hk.elim) wn).below hF hb35
    have hin:∀k,W.heap.size≤k→k<w5.heap.size→xNew (fun _=>False) W w5 k:=fun k h1 h2=>.inr ⟨h1,h2⟩
    have hsz:=hb3.size
    have hsz4:=hb4.size
    have ho1':=own_below (own_below ho1 hb4) hb5
    have ho3':=own_below (own_below ho3 hb4) hb5
    refine⟨_,d,⟨⟨by rw[hw5];exact Bk.new _ _ _,Rt.of_own ho3',⟨q,him.below hb5⟩,hin _ (by omega) (by omega),hin _ (by omega) (by have:=him.lt;omega),fun b hb=>?_⟩,own_base ho1' (Nat.zero_le _),fun k hk=>?_⟩⟩
    ·cases A4 with
     | none=>cases hb
     | some a=>
       rcases ho3'.2 with ⟨h,_⟩|⟨g,cap,cur,h,hg,hh,r⟩
       ·cases h
       ·cases h
        cases hb
        exact hin _ hg (Array.getElem?_eq_some_iff.1 hh).1
    ·have:=ho1'.lt k hk
     exact hin _ this.1 this.2
  rw[←hw5]
  obtain⟨g,hg⟩:∃g,g=w4.heap.size:=⟨_,rfl⟩
  rw[←hg] at hst ⊢
  have HS:=Lib.hid hst
  clear hst hw5 hg y0
  gi_loopw [27] (fun i wr=>∃(f kk:Nat) (X:Nat→Prop) (pre:List Nat),f≤ts.length∧i=.int .i64 f∧D24 J W wr n₀ Xc (fun _=>False) X pre∧C24 wr X L A4 c4 g m kk (.slice A1 ts.length c1) ts∧pre++clsF l L (ts.drop f) kk=clsT l∧kk+(ts.drop f).countP (fun t=>isLf t.kd)=F.length) (fun i _=>ts.length-(intOf i).toNat)
  case atStart=>
    obtain⟨X,d,hc⟩:=HS.out
    exact⟨0,0,X,[],Nat.zero_le _,rfl,d,hc,by rw[HP.out.1];rfl,by rw[HP.out.2.2.1];simp⟩
  case round=>
    obtain⟨f,kk,X,pre,hf,rfl,hd,hc,hpre,hkk⟩:=hrel
    by_cases hfl:f<ts.length
    ·have v0:(f:Int)<(ts.length:Int):=by omega
     have v00:(0:Int)≤(f:Int):=by omega
     obtain⟨t,ht⟩:∃t,ts[f]? = some t:=⟨_,List.getElem?_eq_getElem hfl⟩
     obtain⟨g1,o1,rfl,hg1,hc1⟩:=rd_sat (lay:=tkc) (fun _=>rfl) (Rd.of_own hc.o) ht rfl
     have q0:wr.cell? ⟨g1,o1+f*4,none⟩=some (.int .i64 (t.kd:Int)):=hc1 0 _ rfl
     have q1:wr.cell? ⟨g1,o1+f*4+1,none⟩=some (.int .i64 (t.fr:Int)):=hc1 1 _ rfl
     have q2:wr.cell? ⟨g1,o1+f*4+2,none⟩=some (.int .i64 (t.to:Int)):=hc1 2 _ rfl
     have q3:wr.cell? ⟨g1,o1+f*4+3,none⟩=some (.bool t.op):=hc1 3 _ rfl
     obtain⟨t1,t2,t3,t4,t5⟩:=tile_at24 HP.out.2.1 f t ht
     have hdr:ts.drop f=t::ts.drop (f+1):=by
       rw[List.drop_eq_getElem_cons hfl]
       congr 1
       exact(List.getElem?_eq_some_iff.1 ht).2
     rw[hdr] at hpre hkk
     rw[clsF_cons] at hpre
     rw[List.countP_cons] at hkk
     obtain⟨kk',hkk'⟩:∃kk',kk'=if isLf t.kd=true then kk+1 else kk:=⟨_,rfl⟩
     have hkF:isLf t.kd=true→kk<F.length:=fun h=>by rw[if_pos h] at hkk;omega
     have hkk2:kk'+(ts.drop (f+1)).countP (fun t=>isLf t.kd)=F.length:=by
       rw[hkk',←hkk]
       split<;>omega
     rw[←hkk'] at hpre
     obtain⟨nd,hnd⟩:∃nd,nd=nodeT L t kk:=⟨_,rfl⟩
     have hndl:nd<L.length:=by rw[hnd];exact(nodeT_lt hkF L HP.out.2.2.2.2).1
     obtain⟨C,hC⟩:∃C,C=wholeC t.kd (kdA L nd):=⟨_,rfl⟩
     obtain⟨Z,hZ⟩:∃Z:Int,Z=(C:Int):=⟨_,rfl⟩
     have hcov:∀W':World,Bk W' g 67 #[.slice A4 L.length c4,.int .i64 (kk:Int),.map (some m)]→Rt W' 76 4 (.slice A4 L.length c4) L.length (ndcs L)→Calls Tryz.prog 30 #[.pointer (some ⟨g,0,none⟩),.agg #[.int .i64 (t.kd:Int),.int .i64 (t.fr:Int),.int .i64 (t.to:Int),.bool t.op]] W' fun e w'=>e=.returned (.int .i64 (nd:Int))∧Pcv W' w' g (.slice A4 L.length c4) (.map (some m)) kk':=fun W' h1 h2=>by
       rw[hnd,hkk']
       exact pcover_m F L HP.out.2.2.2.2 t A4 _ c4 g kk W' t4 t5 hFn hkF h1 h2
     have hwho:∀W':World,Bk W' g 67 #[.slice A4 L.length c4,.int .i64 (kk':Int),.map (some m)]→Rd W' W'.heap.size 4 (.slice A4 L.length c4) L.length (ndcs L)→Calls Tryz.prog 31 #[.pointer (some ⟨g,0,none⟩),.agg #[.int .i64 (t.kd:Int),.int .i64 (t.fr:Int),.int .i64 (t.to:Int),.bool t.op],.int .i64 (nd:Int)] W' fun e w'=>e=.returned (.int .i64 Z)∧Below W'.heap.size W' w':=fun W' h1 h2=>by
       rw[hZ,hC]
       exact pwhole_m L t A4 c4 nd g m kk' W' t4 t5 HP.out.2.2.2.1.1 hndl h1 h2
     have HR:=Lib.hid (And.intro hd (And.intro hc (And.intro hpre (And.intro hkk2 (And.intro hC (And.intro hnd (And.intro hcov (And.intro hwho hZ))))))))
     clear hd hc hpre hkk hkk2 hC hZ hnd hcov hwho hc1 hg1 hkk' hdr ht hkF
     by_cases hZ0:Z=0
     ·subst hZ0
      have hC0:wholeC t.kd (kdA L (nodeT L t kk))=0:=by
        rw[←HR.out.2.2.2.2.2.1,←HR.out.2.2.2.2.1]
        have:=HR.out.2.2.2.2.2.2.2.2
        omega
      obtain⟨S,hS⟩:∃S,S=sub l t.fr t.to:=⟨_,rfl⟩
      have hSl:S.length=t.to-t.fr:=by rw[hS,sub_len t3]
      have hext:(ByteArray.mk l.toArray).extract t.fr t.to=⟨S.toArray⟩:=by rw[ba_extract,hS];rfl
      have j1:(t.fr:Int)≤(t.to:Int):=by omega
      have j2:(t.to:Int)≤(l.length:Int):=by omega
      obtain⟨x,hx⟩:∃x,L[nd]? = some x:=⟨_,List.getElem?_eq_getElem hndl⟩
      have hkx:kdA L nd=x.kd:=by unfold kdA;rw[hx]
      have htok:tokC l L t kk=(List.range S.length).map (wordC S x.kd (cmdW L nd)):=by
        rw[tokC_word hC0,←HR.out.2.2.2.2.2.1,hkx,hSl,hS]
      have hN:pre++(List.range S.length).map (wordC S x.kd (cmdW L nd))<+:clsT l:=by
        rw[←htok,←HR.out.2.2.1]
        exact⟨_,List.append_assoc _ _ _⟩
      have hend:(pre++(List.range S.length).map (wordC S x.kd (cmdW L nd)))++clsF l L (ts.drop (f+1)) kk'=clsT l:=by
        rw[←htok,List.append_assoc]
        exact HR.out.2.2.1
      have HW:=Lib.hid (And.intro hN (And.intro hend (And.intro hx hSl)))
      clear hC0 hS hSl hkx htok hN hend hx
      gi_wp2_with (first
        | (refine⟨trivial,fun h=>by simp[Fence.wide] at h,?_⟩
           gi_at_call 31
           refine(callsIn_wide.2 (HR.out.2.2.2.2.2.2.2.1 _ H7.out.2.1.pw.bk H7.out.2.1.pw.nd.rd)).mono ?_
           rintro e w8 ⟨rfl,hb8⟩
           have hk8:=H7.out.2.2.1.below hb8 H7.out.2.2.1.lt
           obtain⟨x0,x1,x2,x3,_⟩:=hk8.four
           have hd8:=H7.out.1.below hF hb8
           have k8:Bk w8 Bn 9 #[.string ⟨l.toArray⟩]:=(hd8.kx.same Bn HK.out.2.2.1.1 HK.out.2.2.1.2).trans HK.out.2.1
           have y0:w8.cell? ⟨Bn,0,none⟩=some (.string ⟨l.toArray⟩):=by rw[k8.cell];rfl
           have H8:=Lib.hid (And.intro hd8 (And.intro (H7.out.2.1.below hb8 fun k hk=>(H7.out.1.xn k hk).2) (And.intro hk8 (show xNew _ w7 w8 _ from .inl H7.out.2.2.2))))
           clear hb8 hk8 hd8 k8)
        | (refine⟨trivial,fun h=>by simp[Fence.wide] at h,?_⟩
           gi_at_call 30
           obtain⟨W6,hW6⟩:∃W6:World,W6=wr.alloc (.cells #[.int .i64 (t.kd:Int),.int .i64 (t.fr:Int),.int .i64 (t.to:Int),.bool t.op] 69):=⟨_,rfl⟩
           rw[←hW6]
           have hba:Below wr.heap.size wr W6:=by rw[hW6];exact(Below.refl _ _).alloc (Nat.le_refl _) _
           have hk6:Bk W6 wr.heap.size 69 #[.int .i64 (t.kd:Int),.int .i64 (t.fr:Int),.int .i64 (t.to:Int),.bool t.op]:=by rw[hW6];exact Bk.new wr _ _
           have hd6:=HR.out.1.below hF hba
           have hc6:=HR.out.2.1.below hba fun k hk=>(HR.out.1.xn k hk).2
           have hx6:xNew X wr W6 wr.heap.size:=Or.inr ⟨Nat.le_refl _,hk6.lt⟩
           refine(callsIn_wide.2 (HR.out.2.2.2.2.2.2.1 _ hc6.pw.bk hc6.pw.nd)).mono ?_
           rintro e w7 ⟨rfl,hp7⟩
           have hne:wr.heap.size≠g:=by have:=HR.out.2.1.pw.bk.lt;omega
           have hk7:Bk w7 wr.heap.size 69 #[.int .i64 (t.kd:Int),.int .i64 (t.fr:Int),.int .i64 (t.to:Int),.bool t.op]:=(hp7.eq _ hk6.lt hne).trans hk6
           obtain⟨x0,x1,x2,x3,_⟩:=hk7.four
           have hx7:xNew (xNew X wr W6) W6 w7 wr.heap.size:=Or.inl hx6
           have H7:=Lib.hid (And.intro (hd6.write hF (hp7.xg hc6.pw.xg)) (And.intro (hc6.cover hp7) (And.intro hk7 hx7)))
           clear hba hd6 hc6 hk6 hp7 hne hk7 hW6 hx6 hx7))
      refine⟨trivial,fun h=>by simp[Fence.wide] at h,?_⟩
      gi_at_call 32
      refine(word_in _ l' (clsT l) n₀ Xc _ J Jx hF HK.out.1 S (by have:=HW.out.2.2.2;omega) L A4 c4 g m kk' nd x w8 pre HP.out.2.2.2.1.1 HW.out.2.2.1 H8.out.2.1.pw H8.out.1.here HW.out.1).mono ?_
      rintro e w9 (⟨rfl,X9,hd9⟩|⟨rfl,X9,ys,hx9⟩)
      ·have H9:=Lib.hid (And.intro (H8.out.1.then hd9) (H8.out.2.1.same hd9.xx hd9.sm))
       clear hd9
       gi_wp2_with fail
       exact⟨⟨f+1,kk',X9,_,by omega,by go_num,H9.out.1,H9.out.2,HW.out.2.1,HR.out.2.2.2.1⟩,by simp[intOf];omega⟩
      ·have H9:=Lib.hid hx9
       clear hx9
       gi_wp2_with fail
       refine bodyPost_ret (results_none rfl _ _ _) rfl ?_
       exact⟨⟨_,rfl⟩,.inr ⟨_,_,trivial,H9.out⟩⟩
     ·have b0:(Z==0)=false:=beq_false_of_ne hZ0
      obtain⟨D,hD⟩:∃D:Nat,D=t.to-t.fr:=⟨_,rfl⟩
      have hDi:(t.to:Int)-(t.fr:Int)=(D:Int):=by omega
      have hwr:IntKind.i64.wrap ((t.to:Int)-(t.fr:Int))=(D:Int):=by rw[hDi];exact IntWalk.i64_in _ (by omega)
      have hDl:D≤900:=by omega
      have hCD:C≠0:=by have:=HR.out.2.2.2.2.2.2.2.2;omega
      have htok:tokC l L t kk=List.replicate D C:=by
        rw[tokC_whole (by rw[←HR.out.2.2.2.2.2.1,←HR.out.2.2.2.2.1];exact hCD),←HR.out.2.2.2.2.2.1,←HR.out.2.2.2.2.1,hD]
      have hN:∀u,u<D→(pre++List.replicate u C)++[C]<+:clsT l:=fun u hu=>by
        rw[←HR.out.2.2.1,htok,List.append_assoc,←List.replicate_succ']
        exact rep_pre C hu pre _
      have hend:(pre++List.replicate D C)++clsF l L (ts.drop (f+1)) kk'=clsT l:=by
        rw[←htok,List.append_assoc]
        exact HR.out.2.2.1
      have HW:=Lib.hid (And.intro hN hend)
      clear htok hN hend hD hCD hDi hZ0
      gi_wp2_with (first
        | (refine⟨trivial,fun h=>by simp[Fence.wide] at h,?_⟩
           gi_at_call 31
           refine(callsIn_wide.2 (HR.out.2.2.2.2.2.2.2.1 _ H7.out.2.1.pw.bk H7.out.2.1.pw.nd.rd)).mono ?_
           rintro e w8 ⟨rfl,hb8⟩
           have hk8:=H7.out.2.2.1.below hb8 H7.out.2.2.1.lt
           obtain⟨x0,x1,x2,x3,_⟩:=hk8.four
           have hd8:=H7.out.1.below hF hb8
           have k8:Bk w8 Bn 9 #[.string ⟨l.toArray⟩]:=(hd8.kx.same Bn HK.out.2.2.1.1 HK.out.2.2.1.2).trans HK.out.2.1
           have y0:w8.cell? ⟨Bn,0,none⟩=some (.string ⟨l.toArray⟩):=by rw[k8.cell];rfl
           have H8:=Lib.hid (And.intro hd8 (And.intro (H7.out.2.1.below hb8 fun k hk=>(H7.out.1.xn k hk).2) (And.intro hk8 (show xNew _ w7 w8 _ from .inl H7.out.2.2.2))))
           clear hb8 hk8 hd8 k8)
        | (refine⟨trivial,fun h=>by simp[Fence.wide] at h,?_⟩
           gi_at_call 30
           obtain⟨W6,hW6⟩:∃W6:World,W6=wr.alloc (.cells #[.int .i64 (t.kd:Int),.int .i64 (t.fr:Int),.int .i64 (t.to:Int),.bool t.op] 69):=⟨_,rfl⟩
           rw[←hW6]
           have hba:Below wr.heap.size wr W6:=by rw[hW6];exact(Below.refl _ _).alloc (Nat.le_refl _) _
           have hk6:Bk W6 wr.heap.size 69 #[.int .i64 (t.kd:Int),.int .i64 (t.fr:Int),.int .i64 (t.to:Int),.bool t.op]:=by rw[hW6];exact Bk.new wr _ _
           have hd6:=HR.out.1.below hF hba
           have hc6:=HR.out.2.1.below hba fun k hk=>(HR.out.1.xn k hk).2
           have hx6:xNew X wr W6 wr.heap.size:=Or.inr ⟨Nat.le_refl _,hk6.lt⟩
           refine(callsIn_wide.2 (HR.out.2.2.2.2.2.2.1 _ hc6.pw.bk hc6.pw.nd)).mono ?_
           rintro e w7 ⟨rfl,hp7⟩
           have hne:wr.heap.size≠g:=by have:=HR.out.2.1.pw.bk.lt;omega
           have hk7:Bk w7 wr.heap.size 69 #[.int .i64 (t.kd:Int),.int .i64 (t.fr:Int),.int .i64 (t.to:Int),.bool t.op]:=(hp7.eq _ hk6.lt hne).trans hk6
           obtain⟨x0,x1,x2,x3,_⟩:=hk7.four
           have hx7:xNew (xNew X wr W6) W6 w7 wr.heap.size:=Or.inl hx6
           have H7:=Lib.hid (And.intro (hd6.write hF (hp7.xg hc6.pw.xg)) (And.intro (hc6.cover hp7) (And.intro hk7 hx7)))
           clear hba hd6 hc6 hk6 hp7 hne hk7 hW6 hx6 hx7))
      obtain⟨wo,rfl⟩:∃wo:World,wo=wr:=⟨_,rfl⟩
      gi_loopw [56] (fun i wx=>∃(u:Nat) (X3:Nat→Prop),u≤D∧i=.int .i64 u∧D24 J W wx n₀ Xc (fun _=>False) X3 (pre++List.replicate u C)∧C24 wx X3 L A4 c4 g m kk' (.slice (some ⟨g1,o1,none⟩) ts.length c1) ts) (fun i _=>D-(intOf i).toNat)
      case atStart=>exact⟨0,_,Nat.zero_le _,rfl,by simpa using H8.out.1,H8.out.2.1⟩
      case round=>
        obtain⟨u,X3,hu,rfl,hd,hc⟩:=hrel
        by_cases huD:u<D
        ·have k1:(u:Int)<(D:Int):=by omega
         obtain⟨fn,tmps,assign,body,hy,hR⟩:=HK.out.1 _ _ C wr hd.j (HW.out.1 u huD) (n-1)
         have hR2:=Lib.hid hR
         simp only[encC] at hy
         rw[←HR.out.2.2.2.2.2.2.2.2] at hy
         have hy2:=Lib.hid hy
         have HB:=Lib.hid (And.intro hd hc)
         clear hd hc hy hR
         gi_wp2_with fail
         rw[hy2.out]
         gi_wp2_with fail
         refine⟨fun h=>by simp[Fence.wide] at h,?_⟩
         refine hR2.out.mono ?_
         rintro e W3 (⟨rfl,hJ3,hk3,hx3⟩|⟨rfl,hJx3,hk3,hx3⟩)
         ·have H3:=Lib.hid (And.intro (HB.out.1.next hJ3 hk3 hx3) (HB.out.2.same (fun _ h=>h) hx3))
          clear hJ3 hk3 hx3
          gi_wp2_with fail
          exact⟨⟨u+1,X3,by omega,by go_num,by rw[List.replicate_succ',←List.append_assoc];exact H3.out.1,H3.out.2⟩,by simp[intOf];omega⟩
         ·have H3:=Lib.hid hJx3
          clear hJx3 hk3 hx3
          gi_wp2_with fail
          refine bodyPost_ret (results_none rfl _ _ _) rfl ?_
          exact⟨⟨_,rfl⟩,.inr ⟨_,_,trivial,H3.out⟩⟩
        ·obtain rfl:u=D:=by omega
         have HB:=Lib.hid (And.intro hd hc)
         clear hd hc
         gi_wp2_with fail
         exact⟨⟨f+1,kk',X3,_,by omega,by go_num,HB.out.1,HB.out.2,HW.out.2,HR.out.2.2.2.1⟩,by simp[intOf];omega⟩
    ·obtain rfl:f=ts.length:=by omega
     have HE:=Lib.hid (And.intro hd hpre)
     clear hd hc hpre hkk
     gi_wp2_with fail
     go_end0
     refine⟨⟨_,rfl⟩,.inl ⟨_,X,?_,HE.out.1.j⟩⟩
     have h:=HE.out.2
     rw[List.drop_length,show clsF l L [] kk=[] from rfl,List.append_nil] at h
     exact h
end Go.Proofs.YtgdifhhioahakaaGreatDoor
