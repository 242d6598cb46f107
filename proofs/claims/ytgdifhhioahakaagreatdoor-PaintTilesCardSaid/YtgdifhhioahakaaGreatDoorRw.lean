/- parts.rows and parts.Rows: the rows of bytes of one part. -/
import Derived.Test.YtgdifhhioahakaaGreatDoorRfy
import Derived.Test.YtgdifhhioahakaaGreatDoorBy
namespace Go.Proofs.YtgdifhhioahakaaGreatDoor
open Go.RowKit
set_option linter.unusedVariables false
set_option linter.unusedSimpArgs false
set_option maxRecDepth 100000
attribute [local go_sem] Oper.semAt_some
structure RV where
  c:Int
  a:Nat
  b:Nat
def rEnd (pre:List RV):Nat→Nat
  | 0=>0
  | i+1=>(pre.getD i ⟨0,0,0⟩).b
structure Rok (K:Nat→Int) (n:Nat) (pre:List RV) (f:Nat):Prop where
  len:pre.length≤f
  fn:f≤n
  last:rEnd pre pre.length=f
  all:∀i r,pre[i]? = some r→r.a=rEnd pre i∧r.a<r.b∧r.b≤n∧(∀x,r.a≤x→x<r.b→K x=r.c)∧(r.b<n→K r.b≠r.c)
theorem Rok.nil (K:Nat→Int) (n:Nat):Rok K n [] 0:=⟨Nat.le_refl _,Nat.zero_le _,rfl,by intro i r h;simp at h⟩
theorem rEnd_app (pre:List RV) (x:RV):∀i,i≤pre.length→rEnd (pre++[x]) i=rEnd pre i
  | 0,_=>rfl
  | i+1,h=>by
    show ((pre++[x]).getD i (⟨0,0,0⟩:RV)).b=(pre.getD i (⟨0,0,0⟩:RV)).b
    rw[List.getD_eq_getElem?_getD,List.getD_eq_getElem?_getD,List.getElem?_append_left (by omega)]
theorem Rok.snoc {K:Nat→Int} {n f t:Nat} {pre:List RV} (h:Rok K n pre f) (h1:f<t) (h2:t≤n) (h3:∀x,f≤x→x<t→K x=K f) (h4:t<n→K t≠K f):Rok K n (pre++[⟨K f,f,t⟩]) t:=by
  refine⟨by have:=h.len;simp;omega,h2,?_,?_⟩
  ·rw[List.length_append]
   show ((pre++[(⟨K f,f,t⟩:RV)]).getD pre.length (⟨0,0,0⟩:RV)).b=t
   rw[List.getD_eq_getElem?_getD,List.getElem?_append_right (Nat.le_refl _)]
   simp
  ·intro i r hi
   by_cases hp:i<pre.length
   ·rw[List.getElem?_append_left hp] at hi
    rw[rEnd_app _ _ _ (by omega)]
    exact h.all i r hi
   ·rw[List.getElem?_append_right (by omega)] at hi
    have h0:i-pre.length=0:=by have:=(List.getElem?_eq_some_iff.1 hi).1;simp at this;omega
    rw[h0] at hi
    simp at hi
    subst hi
    have e:i=pre.length:=by omega
    subst e
    rw[rEnd_app _ _ _ (Nat.le_refl _),h.last]
    exact⟨rfl,h1,h2,h3,h4⟩
abbrev TR:List TypeId:=[31,28]
abbrev encR (x:RV):Array Value:=#[.agg #[.int .i64 x.c,.int .i64 (x.a:Int),.int .i64 (x.b:Int)]]
set_option maxRecDepth 100000 in
set_option maxHeartbeats 4000000 in
theorem rows1_in (n l' Bn:Nat) (l:List UInt8) (J Jx:List RV→World→Prop) (hl:l.length≤900)
    (hY:∀pre x W,J pre W→pre.length<l.length→YieldAt Fence.wide (n-1) Tryz.prog l' (encR x) W fun e W'=>
      (e=.returned (.bool true)∧J (pre++[x]) W'∧KC TR W W')∨(e=.returned (.bool false)∧Jx (pre++[x]) W'))
    (W:World) (hJ:AbidesFrom W.heap.size J) (hBn:Bk W Bn 9 #[.string ⟨l.toArray⟩]) (h0:J [] W) :
    CallsIn Fence.wide n Tryz.prog 100 #[.func (.yield l') #[] #[],.pointer (some ⟨Bn,0,none⟩)] W fun e W'=>(∃v,e=.returned v) ∧
      ((∃ys,Rok (fun x:Nat=>byF (partsL l) (x:Int) (partsL l).length) l.length ys l.length∧J ys W')∨(∃pre,True∧Jx pre W')):=by
  obtain⟨K,hK⟩:∃K:Nat→Int,K=fun x:Nat=>byF (partsL l) (x:Int) (partsL l).length:=⟨_,rfl⟩
  rw[←hK]
  have hpl:=parts_len l
  have HK:=Lib.hid (And.intro hK (And.intro hJ (And.intro h0 (And.intro hY hBn))))
  have y0:W.cell? ⟨Bn,0,none⟩=some (.string ⟨l.toArray⟩):=by rw[hBn.cell];rfl
  clear hK hJ h0 hY hBn
  refine callsIn_of_wp Tryz.func100 rfl trivial ?_ rfl
  simp only[Tryz.ntmps100,List.size_toArray,List.length_cons,List.length_nil,Nat.reduceAdd,Nat.reduceSub,Array.replicate_succ,Array.replicate_zero,List.push_toArray,List.append_toArray,List.nil_append,List.cons_append]
  gi_wp2_with (
    (refine⟨trivial,fun h=>by simp[Fence.wide] at h,?_⟩
     gi_at_call 54
     refine(callsIn_wide.2 (of_m l _ (by omega))).mono ?_
     rintro e w2 ⟨v,rfl,ho,hb2⟩
     obtain⟨A,nn,c,rfl⟩:=own_form' ho
     obtain rfl:=own_len ho
     have H2:=Lib.hid (And.intro ho hb2)
     clear ho hb2))
  clear y0
  gi_loopw [4] (fun i wr=>∃(f:Nat) (pre:List RV),i=.int .i64 f∧Rok K l.length pre f∧J pre wr∧KC TR w2 wr) (fun i _=>l.length-(intOf i).toNat)
  case atStart=>exact⟨0,[],rfl,Rok.nil _ _,HK.out.2.1 [] W w2 none HK.out.2.2.1 (grown_of_below H2.out.2) (by simp),KC.refl _ _⟩
  case round=>
    obtain⟨f,pre,rfl,hok,hJp,hkc⟩:=hrel
    have hbk:Bk wr Bn 9 #[.string ⟨l.toArray⟩]:=(HK.out.2.2.2.2.below H2.out.2 HK.out.2.2.2.2.lt).kc hkc (by decide)
    have y0:wr.cell? ⟨Bn,0,none⟩=some (.string ⟨l.toArray⟩):=by rw[hbk.cell];rfl
    have hrd:Rd wr wr.heap.size 5 (.slice A (partsL l).length c) (partsL l).length (pcells (partsL l)):=Rd.of_own (own_kc H2.out.1 hkc (by decide))
    have hfn:=hok.fn
    by_cases hfl:f<l.length
    ·have u1:(f:Int)<(l.length:Int):=by omega
     have u2:(0:Int)≤(f:Int):=by omega
     have hof:∀x:Nat,byF (partsL l) (x:Int) (partsL l).length=K x:=fun x=>by rw[HK.out.1]
     have HR:=Lib.hid (And.intro hok (And.intro hJp (And.intro hkc (And.intro hrd hof))))
     clear hok hJp hkc hbk hrd hof
     obtain⟨wo,rfl⟩:∃wo:World,wo=wr:=⟨_,rfl⟩
     gi_wp2_with (
       (refine⟨trivial,fun h=>by simp[Fence.wide] at h,?_⟩
        gi_at_call 101
        refine(callsIn_wide.2 (of_p (partsL l) (f:Int) c _ A _ (by omega) rfl HR.out.2.2.2.1)).mono ?_
        rintro e w' ⟨he,rfl⟩
        rw[HR.out.2.2.2.2] at he
        subst he))
     gi_loopw [6] (fun i wx=>∃t:Nat,f<t∧t≤l.length∧i=.int .i64 t∧(∀x,f≤x→x<t→K x=K f)∧wx=wo) (fun i _=>l.length-(intOf i).toNat)
     case atStart=>exact⟨f+1,by omega,by omega,by go_num,fun x h1 h2=>by rw[show x=f by omega],rfl⟩
     case round=>
       obtain⟨t,hft,htl,rfl,hall,rfl⟩:=hrel
       have HA:=Lib.hid hall
       clear hall
       by_cases htn:t<l.length
       ·have v1:(t:Int)<(l.length:Int):=by omega
        have v2:(0:Int)≤(t:Int):=by omega
        by_cases hKt:K t=K f
        ·have t1:(K t==K f)=true:=by simpa using hKt
         have HT:=Lib.hid hKt
         clear hKt
         gi_wp2_with (
           (refine⟨trivial,fun h=>by simp[Fence.wide] at h,?_⟩
            gi_at_call 101
            refine(callsIn_wide.2 (of_p (partsL l) (t:Int) c _ A _ (by omega) rfl HR.out.2.2.2.1)).mono ?_
            rintro e w' ⟨he,rfl⟩
            rw[HR.out.2.2.2.2] at he
            subst he))
         exact⟨⟨t+1,by omega,by omega,by go_num,fun x h1 h2=>by
           by_cases hx:x=t
           ·rw[hx];exact HT.out
           ·exact HA.out x h1 (by omega),by first|rfl|trivial⟩,by simp[intOf];omega⟩
        ·have t1:(K t==K f)=false:=by simpa using hKt
         have HT:=Lib.hid hKt
         clear hKt
         obtain⟨fn,tmps,assign,body,hy,hR⟩:=HK.out.2.2.2.1 pre ⟨K f,f,t⟩ wr HR.out.2.1 (by have:=HR.out.1.len;omega)
         have hR2:=Lib.hid hR
         clear hR
         simp only[encR] at hy
         have hy2:=Lib.hid hy
         clear hy
         gi_wp2_with (
           (refine⟨trivial,fun h=>by simp[Fence.wide] at h,?_⟩
            gi_at_call 101
            refine(callsIn_wide.2 (of_p (partsL l) (t:Int) c _ A _ (by omega) rfl HR.out.2.2.2.1)).mono ?_
            rintro e w' ⟨he,rfl⟩
            rw[HR.out.2.2.2.2] at he
            subst he))
         rw[hy2.out]
         gi_wp2
         refine⟨fun h=>by simp[Fence.wide] at h,?_⟩
         refine hR2.out.mono ?_
         rintro e W3 (⟨rfl,hJ3,hk3⟩|⟨rfl,hJx3⟩)
         ·have H3:=Lib.hid (And.intro hJ3 hk3)
          clear hJ3 hk3
          gi_wp2
          exact⟨⟨t,_,rfl,HR.out.1.snoc hft htl HA.out (by intro _;exact HT.out),H3.out.1,HR.out.2.2.1.trans H3.out.2⟩,by simp[intOf];omega⟩
         ·have H3:=Lib.hid hJx3
          clear hJx3
          gi_wp2
          refine bodyPost_ret (results_none rfl _ _ _) rfl ?_
          exact⟨⟨_,rfl⟩,.inr ⟨_,trivial,H3.out⟩⟩
       ·have v1:¬(t:Int)<(l.length:Int):=by omega
        obtain⟨fn,tmps,assign,body,hy,hR⟩:=HK.out.2.2.2.1 pre ⟨K f,f,t⟩ wr HR.out.2.1 (by have:=HR.out.1.len;omega)
        have hR2:=Lib.hid hR
        clear hR
        simp only[encR] at hy
        have hy2:=Lib.hid hy
        clear hy
        gi_wp2_with fail
        refine⟨trivial,?_⟩
        gi_wp2_with fail
        rw[hy2.out]
        gi_wp2
        refine⟨fun h=>by simp[Fence.wide] at h,?_⟩
        refine hR2.out.mono ?_
        rintro e W3 (⟨rfl,hJ3,hk3⟩|⟨rfl,hJx3⟩)
        ·have H3:=Lib.hid (And.intro hJ3 hk3)
         clear hJ3 hk3
         gi_wp2
         exact⟨⟨t,_,rfl,HR.out.1.snoc hft htl HA.out (by intro h;omega),H3.out.1,HR.out.2.2.1.trans H3.out.2⟩,by simp[intOf];omega⟩
        ·have H3:=Lib.hid hJx3
         clear hJx3
         gi_wp2
         refine bodyPost_ret (results_none rfl _ _ _) rfl ?_
         exact⟨⟨_,rfl⟩,.inr ⟨_,trivial,H3.out⟩⟩
    ·obtain rfl:f=l.length:=by omega
     have HR:=Lib.hid (And.intro hok hJp)
     clear hok hJp hkc hbk hrd
     gi_wp2
     go_end0
     exact⟨⟨_,rfl⟩,.inl ⟨_,HR.out.1,HR.out.2⟩⟩
theorem rows_p (l:List UInt8) (w:World) :
    Calls Tryz.prog 77 #[.string ⟨l.toArray⟩] w fun e w'=>e=.returned (.func (.func 100) #[] #[.pointer (some ⟨w.heap.size,0,none⟩)])∧w'=w.alloc (.cells #[.string ⟨l.toArray⟩] 9):=by
  go_enter Tryz.func77,Tryz.ntmps77
  go_wp2
  go_ret
  exact⟨rfl,rfl⟩
theorem rows_stops (n Bn:Nat) (l:List UInt8) (w:World) (hl:l.length≤900) (hBn:Bk w Bn 9 #[.string ⟨l.toArray⟩]) :
    SeqStopsK Fence.wide n Tryz.prog 100 #[.pointer (some ⟨Bn,0,none⟩)] encR (KC TR) (fun ys=>Rok (fun x:Nat=>byF (partsL l) (x:Int) (partsL l).length) l.length ys l.length) (fun _=>True) l.length w:=fun l' J Jx W hW hJ _ hY h0=>
  rows1_in n l' Bn l J Jx hl hY W hJ (hBn.below hW hBn.lt) h0
def rcell (x:RV):List Value:=[.int .i64 x.c,.int .i64 (x.a:Int),.int .i64 (x.b:Int)]
def rcells (l:List RV):List Value:=l.flatMap rcell
theorem one_rv (x:RV):∀u∈rcell x,u.oneCell'=true:=by
  intro u hu
  simp[rcell] at hu
  rcases hu with rfl|rfl|rfl<;>rfl
theorem rcells_snoc (l:List RV) (x:RV):rcells (l++[x])=rcells l++rcell x:=by simp[rcells]
theorem Tryz.infoRun:(Tryz.prog.info? 31).map (fun i=>(i.zero,i.size,i.bytes))=some (some (.agg #[.int .i64 0,.int .i64 0,.int .i64 0]),3,24):=by kernel_rfl
theorem cells_new (W:World) (x:RV):∀j u,(rcell x)[j]? = some u→(W.alloc (.cells (rcell x).toArray 31)).cell? ((⟨W.heap.size,0,none⟩:Addr).add j)=some u:=by
  intro j u hu
  rw[Addr.add_lit,Nat.zero_add,Bk.cell (Bk.new W _ _)]
  simpa using hu
set_option maxRecDepth 100000 in
set_option maxHeartbeats 2000000 in
theorem rows_m (l:List UInt8) (w:World) (hl:l.length≤900) :
    Calls Tryz.prog 56 #[.string ⟨l.toArray⟩] w fun e w'=>∃(v:Value) (ys:List RV),e=.returned v∧Rok (fun x:Nat=>byF (partsL l) (x:Int) (partsL l).length) l.length ys l.length∧w'.ownsRow w.heap.size 31 3 v ys.length (rcells ys)∧Below w.heap.size w w':=by
  obtain⟨i0,hi,hz0,hz1,hz2⟩:=info_parts Tryz.infoRun
  refine(callsIn_wide (n:=5)).1 ?_
  refine callsIn_of_wp_marks Tryz.func56 rfl trivial ?_ rfl
  simp only[Tryz.ntmps56,List.size_toArray,List.length_cons,List.length_nil,Nat.reduceAdd,Nat.reduceSub,Array.replicate_succ,Array.replicate_zero,List.push_toArray,List.append_toArray,List.nil_append,List.cons_append]
  gi_wp2_with (
    (refine⟨trivial,?_⟩
     gi_at_call 77
     refine(callsIn_wide.2 (rows_p l _)).mono ?_
     rintro e w2 ⟨rfl,rfl⟩))
  obtain⟨W0,hW0⟩:∃W0,(w.alloc (.cells #[.slice none 0 0] 28)).alloc (.cells #[.string ⟨l.toArray⟩] 9)=W0:=⟨_,rfl⟩
  have bO:Boxed W0 w.heap.size 28 (.slice none 0 0):=by rw[←hW0];exact(Boxed.new w _ _).alloc _
  have bL:Bk W0 (w.heap.size+1) 9 #[.string ⟨l.toArray⟩]:=by rw[←hW0];have:=Bk.new (w.alloc (.cells #[.slice none 0 0] 28)) 9 #[.string ⟨l.toArray⟩];rwa [World.size_alloc] at this
  have hs0:W0.heap.size=w.heap.size+2:=by rw[←hW0];simp
  have hb0:Below w.heap.size w W0:=by rw[←hW0];exact((Below.refl _ w).alloc (Nat.le_refl _) _).alloc (by simp) _
  rw[hW0]
  clear hW0
  have HW:=Lib.hid (And.intro hb0 bL)
  refine wpIn_rangeFunc_ownH rfl (by omega) (gf:=100) (lb:=#[.pointer (some ⟨w.heap.size+1,0,none⟩)]) rfl trivial (enters_of Tryz.func100 (by kernel_rfl) rfl)
    (rows_stops (5-1) (w.heap.size+1) l W0 hl bL) (fun h k=>h.trans k) (fun W l o o' hl h1 h2 h3=>KC.put W l o o' h1 h2) (Below.refl _ _) (fun _=>rfl)
    (fun pre W=>(∃v,Boxed W w.heap.size 28 v∧W.ownsRow W0.heap.size 31 3 v pre.length (rcells pre)∧True)∧Below w.heap.size w W∧W0.heap.size≤W.heap.size)
    (fun _ _ _=>False)
    (OwnFrom.and (Own.from (holdsRow_own W0.heap.size w.heap.size 28 31 3 (fun pre=>pre.length) (fun pre=>rcells pre) (fun pre v=>True)) _) (OwnFrom.and (ownFrom_below (Nat.le_refl _) (by omega)) (ownFrom_size _ _)))
    (fun _ _ _ _ _ hs _ _=>hs)
    ⟨⟨_,bO,World.ownsRow_nil _ _ _ _,trivial⟩,HW.out.1,Nat.le_refl _⟩
    (fun x a' W=>∃b,Bk W b 31 (rcell x).toArray∧a'={tmps:=#[.string ⟨l.toArray⟩,undef,.pointer (some ⟨w.heap.size,0,none⟩),.pointer (some ⟨b,0,none⟩),.string ⟨l.toArray⟩,.func (.func 100) #[] #[.pointer (some ⟨w.heap.size+1,0,none⟩)],.agg #[.int .i64 x.c,.int .i64 (x.a:Int),.int .i64 (x.b:Int)],undef,undef,undef,undef,undef],defers:=[]})
    (fun x a'=>bk_own _ _ _ _) ?assign ?body ?done ?stop
  case assign=>
    intro l' pre x W K hI hK
    gi_wp2
    refine hK _ _ (keepsFrom_below (Below.alloc (Below.refl _ _) (Nat.le_refl _) _)) (KC.of_below (Below.alloc (Below.refl _ _) (Nat.le_refl _) _)) ?_ ⟨_,Bk.new _ _ _,rfl⟩
    obtain⟨⟨v,h1,h2,_⟩,h3,h4⟩:=hI
    exact⟨⟨v,h1.alloc _,h2.alloc _,trivial⟩,h3.alloc h3.size _,by simp;omega⟩
  case body=>
    rintro l' pre x a' W hl1 hl2 ⟨⟨v,hv,hrow,_⟩,hB,hS⟩ ⟨b,hbk,rfl⟩ hlt
    have hc:=hv.cell
    have hf:=hv.frozen
    have x0:W.cell? ⟨b,0,none⟩=some (.int .i64 x.c):=by rw[hbk.cell];rfl
    have x1:W.cell? ⟨b,1,none⟩=some (.int .i64 (x.a:Int)):=by rw[hbk.cell];rfl
    have x2:W.cell? ⟨b,2,none⟩=some (.int .i64 (x.b:Int)):=by rw[hbk.cell];rfl
    have hpl0:pre.length≤900:=by omega
    gi_wp2_with (
      (gi_at_builtin
       refine wpListIn_append_own _ rfl (.tmp 7) (.tmp 9) 28 rfl W0.heap.size 31 i0 _ 3 24 Tryz.underlying28 hi hz0 hz1 hz2 rfl (by decide) v pre.length (rcells pre) rfl (hrow.alloc _) ⟨W.heap.size,0,none⟩ 1 1 (rcell x) rfl rfl (cells_new W x) (one_rv x) (by unfold maxLen;omega) (by omega) (by simp;omega) ?_
       intro v3 w3 hown3 hg3 _
       have hW1:Below W.heap.size W (W.alloc (.cells (rcell x).toArray 31)):=Below.alloc (Below.refl _ _) (Nat.le_refl _) _
       have hv3:=box_grown hv (by decide) hrow hW1 hg3
       have hc3:=hv3.cell
       have hf3:=hv3.frozen
       obtain⟨A3,n3,c3,rfl⟩:=own_form' hown3
       have hkc:KC TR W (w3.setCell ⟨w.heap.size,0,none⟩ (.slice A3 n3 c3)):=((KC.of_below hW1).grown hg3 (fun k hk=>by
         obtain⟨cs,t,fr,q1,q2⟩:=own_blk (hrow.alloc _) k hk
         exact⟨cs,t,fr,q1,by rw[q2];decide⟩)).set hv3 (by decide) _ _
       have H3:=Lib.hid (And.intro hkc (box_append (M:=W0.heap.size) hv (by decide) hrow hS (by omega) hW1 hg3 hown3))
       clear hown3 hg3 hv3 hW1 hkc))
    obtain⟨q0,q1,q2,q3,q4,q5,q6⟩:=H3.out
    exact⟨q1,q0,⟨_,q3,by rw[rcells_snoc,List.length_append];exact q4,trivial⟩,hB.trans (q5 _ (Nat.le_refl _)),q6⟩
  case done=>
    rintro D ys W hD hys ⟨⟨v,hv,hrow,_⟩,hB,hS⟩ hK
    have hc:=hv.cell
    have hf:=hv.frozen
    have hv2:=hv.set v
    have hrow2:=hrow.kept (grownBy_setCell' W w.heap.size v) (.inr (hv.not_row (by decide) hrow).symm)
    have hK2:(W.setCell ⟨w.heap.size,0,none⟩ v).heap[D]? = some (.deferred (some [])):=(Below.heap_setCell _ _ _ D (by show D≠w.heap.size;omega)).trans hK
    have hbk:=belowK_b (w:=w) (Nat.le_refl _) (W.setCell ⟨w.heap.size,0,none⟩ v) D (.deferred (some [])) (.deferred none) (by omega) hK2 rfl rfl
    have hv3:Boxed ((W.setCell ⟨w.heap.size,0,none⟩ v).putObj D (.deferred none)) w.heap.size 28 v:=(World.putObj_heap_other (by omega)).trans hv2
    have hrow3:=hrow2.kept (grownBy_putObj' (W.setCell ⟨w.heap.size,0,none⟩ v) D (.deferred none)) (.inr (fun e=>by have:=own_not_cells hrow2 e hK2;cases this))
    have hc3:=hv3.cell
    obtain⟨A,n,c,rfl⟩:=own_form' hrow
    have HD:=Lib.hid (And.intro (hB.setCell (p:=⟨w.heap.size,0,none⟩) (Nat.le_refl _) (.slice A n c)) (And.intro hbk (And.intro hys hrow3)))
    have HK2:=Lib.hid hK2
    clear hB hbk hrow hrow2 hrow3 hys hv2 hv3 hK hK2
    gi_wp2
    refine⟨by simp,.inl ⟨_,_,rfl,run_takeDeferred HK2.out,?_⟩⟩
    refine⟨.slice A n c,by simp[results,Tryz.results56,go_sem,hc3],⟨_,ys,rfl,HD.out.2.2.1,own_base HD.out.2.2.2 (by omega),HD.out.1.trans HD.out.2.1⟩⟩
  case stop=>
    rintro D c pre W _ _ h _
    exact h.elim
end Go.Proofs.YtgdifhhioahakaaGreatDoor
