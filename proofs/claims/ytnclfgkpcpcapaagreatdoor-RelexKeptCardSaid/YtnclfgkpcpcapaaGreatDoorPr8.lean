/- quillwortref08.Pieces: the document's pieces are the program's. -/
import Derived.Test.YtnclfgkpcpcapaaGreatDoorDr8
import Derived.Test.YtnclfgkpcpcapaaGreatDoorOf8
namespace Go.Proofs.YtnclfgkpcpcapaaGreatDoor
open Go.RowKit
set_option linter.unusedVariables false
set_option linter.unusedSimpArgs false
set_option maxRecDepth 100000
theorem plR_len (P:List Pc) (t:List UInt8) (fr:Bool):(plR P t fr).length≤P.length+1:=by
  unfold plR
  split
  ·split<;>simp
  ·simp
theorem plR_tx {P:List Pc} {t:List UInt8} {fr:Bool} {N M:Nat} (h:∀x∈P,x.tx.length≤N) (hM:N+t.length≤M):∀x∈plR P t fr,x.tx.length≤M:=by
  intro x hx
  unfold plR at hx
  split at hx
  ·rename_i p hp
   have hpm:=List.mem_of_getLast? hp
   have h1:=h p hpm
   split at hx
   ·rcases List.mem_append.1 hx with hx|hx
    ·have:=h x (List.dropLast_subset _ hx);omega
    ·simp at hx;subst hx;simp;omega
   ·rcases List.mem_append.1 hx with hx|hx
    ·have:=h x hx;omega
    ·simp at hx;subst hx;simp only;omega
  ·rcases List.mem_append.1 hx with hx|hx
   ·have:=h x hx;omega
   ·simp at hx;subst hx;simp only;omega
theorem app_tx {P Q:List Pc} {N M:Nat} (h:∀x∈P,x.tx.length≤N) (hN:N≤M) (hQ:∀x∈Q,x.tx.length≤M):∀x∈P++Q,x.tx.length≤M:=by
  intro x hx
  rcases List.mem_append.1 hx with hx|hx
  ·have:=h x hx;omega
  ·exact hQ x hx
theorem one_tx {y:Pc} {M:Nat} (h:y.tx.length≤M):∀x∈[y],x.tx.length≤M:=by
  intro x hx
  simp at hx
  subst hx
  exact h
theorem double_ri (l:List UInt8) (L:List Prt) (hL:PL l L) (a b:Int) (x0 e:Nat) (ha:a=x0) (hb:b=e) (n c:Nat) (A:Option Addr) (w:World) (hl:l.length≤900) (hLl:L.length≤100000) (hn:n=L.length) (hr:Rd w w.heap.size 5 (.slice A n c) n (pcells L)) (hx0:x0≤l.length) (he:e≤l.length) (R:List Pc) (hR:R=dblR l L e (l.length+1) x0 [] []) :
    Calls Tryz.prog 83 #[.string ⟨l.toArray⟩,.slice A n c,.int .i64 a,.int .i64 b] w fun e' w'=>∃v,e'=.returned v∧w'.ownsRow w.heap.size 102 3 v R.length (pccs R)∧Below w.heap.size w w':=by
  subst ha
  subst hb
  exact double_r l L hL x0 e n c A w hl hLl hn hr hx0 he R hR
set_option maxHeartbeats 8000000 in
theorem pieces_r (l:List UInt8) (w:World) (hl:l.length≤900) (R:List Pc) (hR:R=pcsR l (partsL l) (l.length+1) 0 [] true) :
    Calls Tryz.prog 60 #[.string ⟨l.toArray⟩] w fun e' w'=>∃v,e'=.returned v∧w'.ownsRow w.heap.size 102 3 v R.length (pccs R)∧Below w.heap.size w w':=by
  obtain⟨i0,hi0,hz0,hz1,hz2⟩:=info_parts Tryz.infoPiece
  have hpl:=parts_len l
  obtain⟨L,hLe⟩:∃L,L=partsL l:=⟨_,rfl⟩
  rw[←hLe] at hR hpl
  have hLl:L.length≤100000:=by omega
  have HP:=Lib.hid (And.intro hLe hR)
  clear hR hpl
  have hPL:PL l L:=by rw[hLe];exact pl_parts l
  clear hLe
  go_enter Tryz.func60,Tryz.ntmps60
  go_wp2_with (
    (go_at_call 80
     refine(of_rp l w hl).mono ?_
     rintro e1 w1 ⟨v1,rfl,ho1,hb1⟩
     rw[←HP.out.1] at ho1
     obtain⟨A,n,c,rfl⟩:=own_form' ho1
     have hn1:=own_len ho1
     have HL:=Lib.hid (And.intro hn1 hPL)
     rw[←hn1] at ho1
     have H:=Lib.hid (And.intro (Rd.of_own ho1) hb1)
     clear ho1 hb1 hn1 hPL))
  go_loopw [6,4,5] (fun i ov fv wr=>∃(mm y:Nat) (out:List Pc) (fresh:Bool) (v:Value),i=.int .i64 (y:Int)∧ov=v∧fv=.bool fresh∧y≤l.length∧l.length<mm+y∧out.length≤2*y∧(∀x∈out,x.tx.length≤l.length+y)∧R=pcsR l L mm y out fresh∧wr.ownsRow w1.heap.size 102 3 v out.length (pccs out)∧Below w1.heap.size w1 wr) (fun i _ _ _=>l.length-(intOf i).toNat)
  case atStart=>exact⟨l.length+1,0,[],true,_,rfl,rfl,rfl,by omega,by omega,by simp,by simp,HP.out.2,World.ownsRow_nil _ _ _ _,Below.refl _ _⟩
  case round=>
    obtain⟨mm,y,out,fresh,v,rfl,rfl,rfl,hyl,hmm,hol,hbx0,hRR,hown,hb⟩:=hrel
    have hbx:∀x∈out,x.tx.length≤100000:=fun x hx=>by have:=hbx0 x hx;omega
    have HX:=Lib.hid hbx0
    clear hbx0
    obtain⟨mm,rfl⟩:∃m',mm=m'+1:=⟨mm-1,by omega⟩
    obtain⟨A1,n1,c1,hv⟩:=own_form' hown
    subst hv
    have hn1:=own_len hown
    subst hn1
    unfold pcsR at hRR
    by_cases hy:y<l.length
    ·have u1:(y:Int)<(l.length:Int):=by omega
     have u2:(0:Int)≤(y:Int):=by omega
     have u3:(y:Int)+1≤(l.length:Int):=by omega
     have u4:((y:Int)+1).toNat=y+1:=by omega
     have u5:(y:Int)≤(y:Int)+1:=by omega
     have u6:(0:Int)≤(y:Int)+1:=by omega
     have u7:IntKind.i64.wrap ((y:Int)+1)=(y:Int)+1:=IntWalk.i64_in _ (by omega)
     have u8:IntKind.i64.wrap ((y:Int)+2)=(y:Int)+2:=IntWalk.i64_in _ (by omega)
     rw[if_pos hy] at hRR
     cases hf:findP L y with
     | none=>
       rw[hf] at hRR
       simp only at hRR
       obtain⟨S,hS⟩:∃S,S=sub l y (y+1):=⟨_,rfl⟩
       have hext:(ByteArray.mk l.toArray).extract y (y+1)=⟨S.toArray⟩:=by rw[ba_extract,hS];rfl
       have hSl:S.length≤(y+1)-y:=by have:=sub_le l y (y+1);rw[hS];omega
       rw[←hS] at hRR
       clear hS
       have HR:=Lib.hid (And.intro hRR (And.intro hown (And.intro hb (And.intro hf hbx))))
       clear hRR hown hb hf hbx
       go_upto_region 7 with (
         (go_at_call 81
          refine(find_n HL.out.2 y c n A _ hLl HL.out.1 ((H.out.1.keep HR.out.2.2.1 (Nat.le_refl _)).mono HR.out.2.2.1.size)).mono ?_
          rintro e2 w2 ⟨he2,hb2⟩
          rw[HR.out.2.2.2.1] at he2
          simp only[findN] at he2
          subst he2
          have hk2:=Bk.new w2 136 #[.int .i64 0,.int .i64 0,.int .i64 0,.int .i64 0,.bool false]
          have ho2:=(own_below HR.out.2.1 hb2).alloc (.cells #[.int .i64 0,.int .i64 0,.int .i64 0,.int .i64 0,.bool false] 136)
          have hB2:Below w1.heap.size w1 (w2.alloc (.cells #[.int .i64 0,.int .i64 0,.int .i64 0,.int .i64 0,.bool false] 136)):=(HR.out.2.2.1.trans (hb2.mono HR.out.2.2.1.size)).alloc (by have:=hb2.size;have:=HR.out.2.2.1.size;omega) _
          obtain⟨p0,p1,p2,p3,p4⟩:=five_of hk2
          have hlw2:=hk2.lt
          have H2:=Lib.hid (And.intro ho2 (And.intro hB2 hk2))
          clear hb2 ho2 hB2 hk2))
       refine wp_region_lit ?_
       iterate 19
         with_reducible refine wpList_step (fun K hK=>?_)
         go_simp
         refine hK _ _ ?_
         clear hK K
       with_reducible refine wpList_nil ?_
       go_wp2_with (first
         | (go_at_call 82
            refine(plain8_r out S fresh c1 out.length A1 _ rfl (by omega) (Rd.of_own H2.out.1) HR.out.2.2.2.2 (by omega)).mono ?_
            rintro e3 w3 ⟨v3,rfl,ho3,hb3⟩
            obtain⟨s0,s1,s2,s3,s4⟩:=five_of (H2.out.2.2.below hb3 H2.out.2.2.lt)
            have H3:=Lib.hid (And.intro (own_base ho3 H2.out.2.1.size) (H2.out.2.1.trans (hb3.mono H2.out.2.1.size)))
            clear ho3 hb3))
       exact⟨⟨mm,y+1,plR out S fresh,false,_,by go_num,rfl,rfl,by omega,by omega,by have:=plR_len out S fresh;omega,plR_tx HX.out (by omega),HR.out.1,H3.out.1,H3.out.2⟩,by simp[intOf];omega⟩
     | some q=>
       rw[hf] at hRR
       simp only at hRR
       obtain⟨_,hq1,hq2,hq3,hq4,hq5,hq6,hq7⟩:=findP_some HL.out.2 hf
       clear hq1 hq2 hq6
       have k1:(y:Int)≤(toN q:Int):=by omega
       have k2:(toN q:Int)≤(l.length:Int):=by omega
       have k3:(y:Int)+1≤(toN q:Int):=by omega
       by_cases h14:q.mode=14
       ·rw[if_pos (.inl h14)] at hRR
        have Hm:=Lib.hid h14
        clear h14 hq5 hq7
        obtain⟨S,hS⟩:∃S,S=sub l y (toN q):=⟨_,rfl⟩
        have hext:(ByteArray.mk l.toArray).extract y (toN q)=⟨S.toArray⟩:=by rw[ba_extract,hS];rfl
        have hSl:S.length≤(toN q)-y:=by have:=sub_le l y (toN q);rw[hS];omega
        rw[←hS] at hRR
        clear hS
        have HR:=Lib.hid (And.intro hRR (And.intro hown (And.intro hb (And.intro hf hbx))))
        clear hRR hown hb hf hbx
        go_upto_region 7 with (
          (go_at_call 81
           refine(find_n HL.out.2 y c n A _ hLl HL.out.1 ((H.out.1.keep HR.out.2.2.1 (Nat.le_refl _)).mono HR.out.2.2.1.size)).mono ?_
           rintro e2 w2 ⟨he2,hb2⟩
           rw[HR.out.2.2.2.1] at he2
           simp only[findN] at he2
           rw[Hm.out] at he2
           subst he2
           have hk2:=Bk.new w2 136 #[.int .i64 (14:Int),.int .i64 (y:Int),.int .i64 (toN q:Int),.int .i64 q.up,.bool q.op]
           have ho2:=(own_below HR.out.2.1 hb2).alloc (.cells #[.int .i64 (14:Int),.int .i64 (y:Int),.int .i64 (toN q:Int),.int .i64 q.up,.bool q.op] 136)
           have hB2:Below w1.heap.size w1 (w2.alloc (.cells #[.int .i64 (14:Int),.int .i64 (y:Int),.int .i64 (toN q:Int),.int .i64 q.up,.bool q.op] 136)):=(HR.out.2.2.1.trans (hb2.mono HR.out.2.2.1.size)).alloc (by have:=hb2.size;have:=HR.out.2.2.1.size;omega) _
           obtain⟨p0,p1,p2,p3,p4⟩:=five_of hk2
           have hlw2:=hk2.lt
           have H2:=Lib.hid (And.intro ho2 (And.intro hB2 hk2))
           clear hb2 ho2 hB2 hk2))
        refine wp_region_lit ?_
        iterate 19
          with_reducible refine wpList_step (fun K hK=>?_)
          go_simp
          refine hK _ _ ?_
          clear hK K
        with_reducible refine wpList_nil ?_
        go_wp2_with (first
          | (go_at_call 82
             refine(plain8_r out S fresh c1 out.length A1 _ rfl (by omega) (Rd.of_own H2.out.1) HR.out.2.2.2.2 (by omega)).mono ?_
             rintro e3 w3 ⟨v3,rfl,ho3,hb3⟩
             obtain⟨s0,s1,s2,s3,s4⟩:=five_of (H2.out.2.2.below hb3 H2.out.2.2.lt)
             have H3:=Lib.hid (And.intro (own_base ho3 H2.out.2.1.size) (H2.out.2.1.trans (hb3.mono H2.out.2.1.size)))
             clear ho3 hb3))
        exact⟨⟨mm,toN q,plR out S fresh,false,_,by go_num,rfl,rfl,by omega,by omega,by have:=plR_len out S fresh;omega,plR_tx HX.out (by omega),HR.out.1,H3.out.1,H3.out.2⟩,by simp[intOf];omega⟩
       ·have t14:(q.mode==14)=false:=by simpa using h14
        by_cases hlone:loneB q y=true
        ·rw[if_pos (.inr hlone)] at hRR
         obtain⟨h12,hto⟩:q.mode=12∧toN q=y+1:=by simpa [loneB] using hlone
         have Ht:=Lib.hid (show (toN q:Int)=(y:Int)+1 by omega)
         have Hm:=Lib.hid h12
         rw[hto] at hRR
         clear h12 hto hlone hq5 hq7 t14 h14
         obtain⟨S,hS⟩:∃S,S=sub l y (y+1):=⟨_,rfl⟩
         have hext:(ByteArray.mk l.toArray).extract y (y+1)=⟨S.toArray⟩:=by rw[ba_extract,hS];rfl
         have hSl:S.length≤(y+1)-y:=by have:=sub_le l y (y+1);rw[hS];omega
         rw[←hS] at hRR
         clear hS
         have HR:=Lib.hid (And.intro hRR (And.intro hown (And.intro hb (And.intro hf hbx))))
         clear hRR hown hb hf hbx
         go_upto_region 7 with (
           (go_at_call 81
            refine(find_n HL.out.2 y c n A _ hLl HL.out.1 ((H.out.1.keep HR.out.2.2.1 (Nat.le_refl _)).mono HR.out.2.2.1.size)).mono ?_
            rintro e2 w2 ⟨he2,hb2⟩
            rw[HR.out.2.2.2.1] at he2
            simp only[findN] at he2
            rw[Hm.out] at he2
            rw[Ht.out] at he2
            subst he2
            have hk2:=Bk.new w2 136 #[.int .i64 (12:Int),.int .i64 (y:Int),.int .i64 ((y:Int)+1),.int .i64 q.up,.bool q.op]
            have ho2:=(own_below HR.out.2.1 hb2).alloc (.cells #[.int .i64 (12:Int),.int .i64 (y:Int),.int .i64 ((y:Int)+1),.int .i64 q.up,.bool q.op] 136)
            have hB2:Below w1.heap.size w1 (w2.alloc (.cells #[.int .i64 (12:Int),.int .i64 (y:Int),.int .i64 ((y:Int)+1),.int .i64 q.up,.bool q.op] 136)):=(HR.out.2.2.1.trans (hb2.mono HR.out.2.2.1.size)).alloc (by have:=hb2.size;have:=HR.out.2.2.1.size;omega) _
            obtain⟨p0,p1,p2,p3,p4⟩:=five_of hk2
            have hlw2:=hk2.lt
            have H2:=Lib.hid (And.intro ho2 (And.intro hB2 hk2))
            clear hb2 ho2 hB2 hk2))
         refine wp_region_lit ?_
         iterate 19
           with_reducible refine wpList_step (fun K hK=>?_)
           go_simp
           refine hK _ _ ?_
           clear hK K
         with_reducible refine wpList_nil ?_
         go_wp2_with (first
           | (go_at_call 82
              refine(plain8_r out S fresh c1 out.length A1 _ rfl (by omega) (Rd.of_own H2.out.1) HR.out.2.2.2.2 (by omega)).mono ?_
              rintro e3 w3 ⟨v3,rfl,ho3,hb3⟩
              obtain⟨s0,s1,s2,s3,s4⟩:=five_of (H2.out.2.2.below hb3 H2.out.2.2.lt)
              have H3:=Lib.hid (And.intro (own_base ho3 H2.out.2.1.size) (H2.out.2.1.trans (hb3.mono H2.out.2.1.size)))
              clear ho3 hb3))
         exact⟨⟨mm,y+1,plR out S fresh,false,_,by go_num,rfl,rfl,by omega,by omega,by have:=plR_len out S fresh;omega,plR_tx HX.out (by omega),HR.out.1,H3.out.1,H3.out.2⟩,by simp[intOf];omega⟩
        ·rw[if_neg (by rintro (h|h);exact h14 h;exact hlone h)] at hRR
         by_cases h13:q.mode=13
         ·rw[if_pos h13] at hRR
          have Hm:=Lib.hid h13
          have hq8:=hq7 h13
          clear h13 hlone hq5 hq7 t14 h14
          by_cases h22:toN q=y+2
          ·have Ht:=Lib.hid (show (toN q:Int)=(y:Int)+2 by omega)
           rw[h22] at hRR
           obtain⟨d,hd⟩:∃d,l[y+1]? = some d:=⟨_,List.getElem?_eq_getElem (by omega)⟩
           have hgd:l.getD (y+1) 0=d:=by rw[List.getD_eq_getElem?_getD,hd];rfl
           obtain⟨hb1,hb2⟩:=List.getElem?_eq_some_iff.1 hd
           have hLk:∃h:y+1<(ByteArray.mk l.toArray).size,(ByteArray.mk l.toArray)[y+1]'h=d:=⟨hb1,hb2⟩
           obtain⟨hL1,hL2⟩:=hLk
           have v1:(y:Int)+1<(l.length:Int):=by omega
           have v2:(y:Int)+1≤(y:Int)+2:=by omega
           have v3:((y:Int)+2).toNat=y+2:=by omega
           have v4:(y:Int)+2≤(l.length:Int):=by omega
           rw[hgd] at hRR
           clear hd hgd hb2
           by_cases h10:d.toNat=10
           ·rw[if_neg (fun h=>h.2 h10)] at hRR
            have t10:((d.toNat:Int)==10)=true:=by rw[beq_iff_eq];omega
            clear h10 h22
            have HR:=Lib.hid (And.intro hRR (And.intro hown (And.intro hb (And.intro hf hbx))))
            clear hRR hown hb hf hbx
            go_upto_region 7 with (
              (go_at_call 81
               refine(find_n HL.out.2 y c n A _ hLl HL.out.1 ((H.out.1.keep HR.out.2.2.1 (Nat.le_refl _)).mono HR.out.2.2.1.size)).mono ?_
               rintro e2 w2 ⟨he2,hb2⟩
               rw[HR.out.2.2.2.1] at he2
               simp only[findN] at he2
               rw[Hm.out] at he2
               rw[Ht.out] at he2
               subst he2
               have hk2:=Bk.new w2 136 #[.int .i64 (13:Int),.int .i64 (y:Int),.int .i64 ((y:Int)+2),.int .i64 q.up,.bool q.op]
               have ho2:=(own_below HR.out.2.1 hb2).alloc (.cells #[.int .i64 (13:Int),.int .i64 (y:Int),.int .i64 ((y:Int)+2),.int .i64 q.up,.bool q.op] 136)
               have hB2:Below w1.heap.size w1 (w2.alloc (.cells #[.int .i64 (13:Int),.int .i64 (y:Int),.int .i64 ((y:Int)+2),.int .i64 q.up,.bool q.op] 136)):=(HR.out.2.2.1.trans (hb2.mono HR.out.2.2.1.size)).alloc (by have:=hb2.size;have:=HR.out.2.2.1.size;omega) _
               obtain⟨p0,p1,p2,p3,p4⟩:=five_of hk2
               have hlw2:=hk2.lt
               have H2:=Lib.hid (And.intro ho2 (And.intro hB2 hk2))
               clear hb2 ho2 hB2 hk2))
            refine wp_region_lit ?_
            iterate 19
              with_reducible refine wpList_step (fun K hK=>?_)
              go_simp
              refine hK _ _ ?_
              clear hK K
            with_reducible refine wpList_nil ?_
            go_wp2_with fail
            exact⟨⟨mm,y+2,out,fresh,_,by go_num,rfl,rfl,by omega,by omega,by omega,fun x hx=>by have:=HX.out x hx;omega,HR.out.1,H2.out.1,H2.out.2.1⟩,by simp[intOf];omega⟩
           ·rw[if_pos ⟨rfl,h10⟩] at hRR
            have t10:((d.toNat:Int)==10)=false:=by rw[beq_eq_false_iff_ne];omega
            clear h10 h22
            obtain⟨S,hS⟩:∃S,S=sub l (y+1) (y+2):=⟨_,rfl⟩
            have hext:(ByteArray.mk l.toArray).extract (y+1) (y+2)=⟨S.toArray⟩:=by rw[ba_extract,hS];rfl
            have hSl:S.length≤(y+2)-(y+1):=by have:=sub_le l (y+1) (y+2);rw[hS];omega
            rw[←hS] at hRR
            clear hS
            have HR:=Lib.hid (And.intro hRR (And.intro hown (And.intro hb (And.intro hf hbx))))
            clear hRR hown hb hf hbx
            go_upto_region 7 with (
              (go_at_call 81
               refine(find_n HL.out.2 y c n A _ hLl HL.out.1 ((H.out.1.keep HR.out.2.2.1 (Nat.le_refl _)).mono HR.out.2.2.1.size)).mono ?_
               rintro e2 w2 ⟨he2,hb2⟩
               rw[HR.out.2.2.2.1] at he2
               simp only[findN] at he2
               rw[Hm.out] at he2
               rw[Ht.out] at he2
               subst he2
               have hk2:=Bk.new w2 136 #[.int .i64 (13:Int),.int .i64 (y:Int),.int .i64 ((y:Int)+2),.int .i64 q.up,.bool q.op]
               have ho2:=(own_below HR.out.2.1 hb2).alloc (.cells #[.int .i64 (13:Int),.int .i64 (y:Int),.int .i64 ((y:Int)+2),.int .i64 q.up,.bool q.op] 136)
               have hB2:Below w1.heap.size w1 (w2.alloc (.cells #[.int .i64 (13:Int),.int .i64 (y:Int),.int .i64 ((y:Int)+2),.int .i64 q.up,.bool q.op] 136)):=(HR.out.2.2.1.trans (hb2.mono HR.out.2.2.1.size)).alloc (by have:=hb2.size;have:=HR.out.2.2.1.size;omega) _
               obtain⟨p0,p1,p2,p3,p4⟩:=five_of hk2
               have hlw2:=hk2.lt
               have H2:=Lib.hid (And.intro ho2 (And.intro hB2 hk2))
               clear hb2 ho2 hB2 hk2))
            refine wp_region_lit ?_
            iterate 19
              with_reducible refine wpList_step (fun K hK=>?_)
              go_simp
              refine hK _ _ ?_
              clear hK K
            with_reducible refine wpList_nil ?_
            go_wp2_with (first
              | (at_builtin
                 refine wpList_append_rd rfl (.tmp 76) (.tmp 85) 99 rfl w1.heap.size 102 i0 _ 3 24 Tryz.underlying99 hi0 hz0 hz1 hz2 rfl (by decide) (.slice A1 out.length c1) out.length (pccs out) rfl (H2.out.1.alloc _) (.slice (some ⟨w2.heap.size+1,0,none⟩) 1 1) 1 (w2.heap.size+1+1) (pccs [⟨false,true,S⟩]) rfl (rd_newk _ (w2.heap.size+1) (by simp) (pccs [⟨false,true,S⟩]) 102 3 1 rfl (by omega)) (one_pcs _) (by unfold maxLen;omega) (by omega) (by have:=H2.out.2.1.size;simp at this ⊢;omega) ?_
                 intro v3 w3 hown3 hg3 hv3
                 have hb3:Below w1.heap.size w1 w3:=(H2.out.2.1.alloc (by have:=H2.out.2.1.size;simp at this ⊢;omega) _).grown hg3 (by have:=H2.out.2.1.size;simp at this ⊢;omega) (fun k hk=>(H2.out.1.lt k hk).1)
                 have hk3:=(H2.out.2.2.alloc (.cells (pccs [⟨false,true,S⟩]).toArray 102)).grown hg3 (own_ne H2.out.1 H2.out.2.2 (by decide)).symm
                 obtain⟨s0,s1,s2,s3,s4⟩:=five_of hk3
                 have H3:=Lib.hid (And.intro hown3 (And.intro hb3 hk3))
                 clear hown3 hg3 hv3 hb3 hk3))
            exact⟨⟨mm,y+2,out++[⟨false,true,S⟩],true,_,by go_num,rfl,rfl,by omega,by omega,by simp;omega,app_tx HX.out (by omega) (one_tx (by simp only;omega)),HR.out.1,by rw[pccs_app,List.length_append];exact H3.out.1,H3.out.2.1⟩,by simp[intOf];omega⟩
          ·rw[if_neg (fun h=>h22 h.1)] at hRR
           have t2:((toN q:Int)==(y:Int)+2)=false:=by rw[beq_eq_false_iff_ne];omega
           have HR:=Lib.hid (And.intro hRR (And.intro hown (And.intro hb (And.intro hf hbx))))
           clear hRR hown hb hf hbx
           go_upto_region 7 with (
             (go_at_call 81
              refine(find_n HL.out.2 y c n A _ hLl HL.out.1 ((H.out.1.keep HR.out.2.2.1 (Nat.le_refl _)).mono HR.out.2.2.1.size)).mono ?_
              rintro e2 w2 ⟨he2,hb2⟩
              rw[HR.out.2.2.2.1] at he2
              simp only[findN] at he2
              rw[Hm.out] at he2
              subst he2
              have hk2:=Bk.new w2 136 #[.int .i64 (13:Int),.int .i64 (y:Int),.int .i64 (toN q:Int),.int .i64 q.up,.bool q.op]
              have ho2:=(own_below HR.out.2.1 hb2).alloc (.cells #[.int .i64 (13:Int),.int .i64 (y:Int),.int .i64 (toN q:Int),.int .i64 q.up,.bool q.op] 136)
              have hB2:Below w1.heap.size w1 (w2.alloc (.cells #[.int .i64 (13:Int),.int .i64 (y:Int),.int .i64 (toN q:Int),.int .i64 q.up,.bool q.op] 136)):=(HR.out.2.2.1.trans (hb2.mono HR.out.2.2.1.size)).alloc (by have:=hb2.size;have:=HR.out.2.2.1.size;omega) _
              obtain⟨p0,p1,p2,p3,p4⟩:=five_of hk2
              have hlw2:=hk2.lt
              have H2:=Lib.hid (And.intro ho2 (And.intro hB2 hk2))
              clear hb2 ho2 hB2 hk2))
           refine wp_region_lit ?_
           iterate 19
             with_reducible refine wpList_step (fun K hK=>?_)
             go_simp
             refine hK _ _ ?_
             clear hK K
           with_reducible refine wpList_nil ?_
           go_wp2_with fail
           exact⟨⟨mm,toN q,out,fresh,_,by go_num,rfl,rfl,by omega,by omega,by omega,fun x hx=>by have:=HX.out x hx;omega,HR.out.1,H2.out.1,H2.out.2.1⟩,by simp[intOf];omega⟩
         ·rw[if_neg h13] at hRR
          have t13:(q.mode==13)=false:=by simpa using h13
          by_cases h4:q.mode=4
          ·rw[if_pos h4] at hRR
           have Hm:=Lib.hid h4
           have hq8:=hq5 (by omega)
           clear h4 h13 t13 hlone h14 t14 hq5 hq7
           cases hop:q.op
           ·have Ho:=Lib.hid hop
            have hE:endQ q=toN q-1:=by unfold endQ;rw[hop];rfl
            rw[hE] at hRR
            have hq9:=hq8 hop
            have v1:(y:Int)+1≤(toN q:Int)-1:=by omega
            have v2:(toN q:Int)-1≤(l.length:Int):=by omega
            have v3:((toN q:Int)-1).toNat=toN q-1:=by omega
            have v4:(0:Int)≤(toN q:Int)-1:=by omega
            clear hE hop hq8
            obtain⟨S,hS⟩:∃S,S=sub l (y+1) (toN q-1):=⟨_,rfl⟩
            have hext:(ByteArray.mk l.toArray).extract (y+1) (toN q-1)=⟨S.toArray⟩:=by rw[ba_extract,hS];rfl
            have hSl:S.length≤(toN q-1)-(y+1):=by have:=sub_le l (y+1) (toN q-1);rw[hS];omega
            rw[←hS] at hRR
            clear hS
            have HR:=Lib.hid (And.intro hRR (And.intro hown (And.intro hb (And.intro hf hbx))))
            clear hRR hown hb hf hbx
            go_upto_region 7 with (
              (go_at_call 81
               refine(find_n HL.out.2 y c n A _ hLl HL.out.1 ((H.out.1.keep HR.out.2.2.1 (Nat.le_refl _)).mono HR.out.2.2.1.size)).mono ?_
               rintro e2 w2 ⟨he2,hb2⟩
               rw[HR.out.2.2.2.1] at he2
               simp only[findN] at he2
               rw[Hm.out] at he2
               rw[Ho.out] at he2
               subst he2
               have hk2:=Bk.new w2 136 #[.int .i64 (4:Int),.int .i64 (y:Int),.int .i64 (toN q:Int),.int .i64 q.up,.bool false]
               have ho2:=(own_below HR.out.2.1 hb2).alloc (.cells #[.int .i64 (4:Int),.int .i64 (y:Int),.int .i64 (toN q:Int),.int .i64 q.up,.bool false] 136)
               have hB2:Below w1.heap.size w1 (w2.alloc (.cells #[.int .i64 (4:Int),.int .i64 (y:Int),.int .i64 (toN q:Int),.int .i64 q.up,.bool false] 136)):=(HR.out.2.2.1.trans (hb2.mono HR.out.2.2.1.size)).alloc (by have:=hb2.size;have:=HR.out.2.2.1.size;omega) _
               obtain⟨p0,p1,p2,p3,p4⟩:=five_of hk2
               have hlw2:=hk2.lt
               have H2:=Lib.hid (And.intro ho2 (And.intro hB2 hk2))
               clear hb2 ho2 hB2 hk2))
            refine wp_region_lit ?_
            iterate 19
              with_reducible refine wpList_step (fun K hK=>?_)
              go_simp
              refine hK _ _ ?_
              clear hK K
            with_reducible refine wpList_nil ?_
            go_wp2_with (first
              | (at_builtin
                 refine wpList_append_rd rfl (.tmp 97) (.tmp 105) 99 rfl w1.heap.size 102 i0 _ 3 24 Tryz.underlying99 hi0 hz0 hz1 hz2 rfl (by decide) (.slice A1 out.length c1) out.length (pccs out) rfl (H2.out.1.alloc _) (.slice (some ⟨w2.heap.size+1,0,none⟩) 1 1) 1 (w2.heap.size+1+1) (pccs [⟨false,true,S⟩]) rfl (rd_newk _ (w2.heap.size+1) (by simp) (pccs [⟨false,true,S⟩]) 102 3 1 rfl (by omega)) (one_pcs _) (by unfold maxLen;omega) (by omega) (by have:=H2.out.2.1.size;simp at this ⊢;omega) ?_
                 intro v3 w3 hown3 hg3 hv3
                 have hb3:Below w1.heap.size w1 w3:=(H2.out.2.1.alloc (by have:=H2.out.2.1.size;simp at this ⊢;omega) _).grown hg3 (by have:=H2.out.2.1.size;simp at this ⊢;omega) (fun k hk=>(H2.out.1.lt k hk).1)
                 have hk3:=(H2.out.2.2.alloc (.cells (pccs [⟨false,true,S⟩]).toArray 102)).grown hg3 (own_ne H2.out.1 H2.out.2.2 (by decide)).symm
                 obtain⟨s0,s1,s2,s3,s4⟩:=five_of hk3
                 have H3:=Lib.hid (And.intro hown3 (And.intro hb3 hk3))
                 clear hown3 hg3 hv3 hb3 hk3))
            exact⟨⟨mm,toN q,out++[⟨false,true,S⟩],true,_,by go_num,rfl,rfl,by omega,by omega,by simp;omega,app_tx HX.out (by omega) (one_tx (by simp only;omega)),HR.out.1,by rw[pccs_app,List.length_append];exact H3.out.1,H3.out.2.1⟩,by simp[intOf];omega⟩
           ·have Ho:=Lib.hid hop
            have hE:endQ q=toN q:=by unfold endQ;rw[hop];rfl
            rw[hE] at hRR
            skip
            have v2:(toN q:Int)-1≤(l.length:Int):=by omega
            have v3:((toN q:Int)-1).toNat=toN q-1:=by omega
            have v4:(0:Int)≤(toN q:Int)-1:=by omega
            clear hE hop hq8
            obtain⟨S,hS⟩:∃S,S=sub l (y+1) (toN q):=⟨_,rfl⟩
            have hext:(ByteArray.mk l.toArray).extract (y+1) (toN q)=⟨S.toArray⟩:=by rw[ba_extract,hS];rfl
            have hSl:S.length≤(toN q)-(y+1):=by have:=sub_le l (y+1) (toN q);rw[hS];omega
            rw[←hS] at hRR
            clear hS
            have HR:=Lib.hid (And.intro hRR (And.intro hown (And.intro hb (And.intro hf hbx))))
            clear hRR hown hb hf hbx
            go_upto_region 7 with (
              (go_at_call 81
               refine(find_n HL.out.2 y c n A _ hLl HL.out.1 ((H.out.1.keep HR.out.2.2.1 (Nat.le_refl _)).mono HR.out.2.2.1.size)).mono ?_
               rintro e2 w2 ⟨he2,hb2⟩
               rw[HR.out.2.2.2.1] at he2
               simp only[findN] at he2
               rw[Hm.out] at he2
               rw[Ho.out] at he2
               subst he2
               have hk2:=Bk.new w2 136 #[.int .i64 (4:Int),.int .i64 (y:Int),.int .i64 (toN q:Int),.int .i64 q.up,.bool true]
               have ho2:=(own_below HR.out.2.1 hb2).alloc (.cells #[.int .i64 (4:Int),.int .i64 (y:Int),.int .i64 (toN q:Int),.int .i64 q.up,.bool true] 136)
               have hB2:Below w1.heap.size w1 (w2.alloc (.cells #[.int .i64 (4:Int),.int .i64 (y:Int),.int .i64 (toN q:Int),.int .i64 q.up,.bool true] 136)):=(HR.out.2.2.1.trans (hb2.mono HR.out.2.2.1.size)).alloc (by have:=hb2.size;have:=HR.out.2.2.1.size;omega) _
               obtain⟨p0,p1,p2,p3,p4⟩:=five_of hk2
               have hlw2:=hk2.lt
               have H2:=Lib.hid (And.intro ho2 (And.intro hB2 hk2))
               clear hb2 ho2 hB2 hk2))
            refine wp_region_lit ?_
            iterate 19
              with_reducible refine wpList_step (fun K hK=>?_)
              go_simp
              refine hK _ _ ?_
              clear hK K
            with_reducible refine wpList_nil ?_
            go_wp2_with (first
              | (at_builtin
                 refine wpList_append_rd rfl (.tmp 97) (.tmp 105) 99 rfl w1.heap.size 102 i0 _ 3 24 Tryz.underlying99 hi0 hz0 hz1 hz2 rfl (by decide) (.slice A1 out.length c1) out.length (pccs out) rfl (H2.out.1.alloc _) (.slice (some ⟨w2.heap.size+1,0,none⟩) 1 1) 1 (w2.heap.size+1+1) (pccs [⟨false,true,S⟩]) rfl (rd_newk _ (w2.heap.size+1) (by simp) (pccs [⟨false,true,S⟩]) 102 3 1 rfl (by omega)) (one_pcs _) (by unfold maxLen;omega) (by omega) (by have:=H2.out.2.1.size;simp at this ⊢;omega) ?_
                 intro v3 w3 hown3 hg3 hv3
                 have hb3:Below w1.heap.size w1 w3:=(H2.out.2.1.alloc (by have:=H2.out.2.1.size;simp at this ⊢;omega) _).grown hg3 (by have:=H2.out.2.1.size;simp at this ⊢;omega) (fun k hk=>(H2.out.1.lt k hk).1)
                 have hk3:=(H2.out.2.2.alloc (.cells (pccs [⟨false,true,S⟩]).toArray 102)).grown hg3 (own_ne H2.out.1 H2.out.2.2 (by decide)).symm
                 obtain⟨s0,s1,s2,s3,s4⟩:=five_of hk3
                 have H3:=Lib.hid (And.intro hown3 (And.intro hb3 hk3))
                 clear hown3 hg3 hv3 hb3 hk3))
            exact⟨⟨mm,toN q,out++[⟨false,true,S⟩],true,_,by go_num,rfl,rfl,by omega,by omega,by simp;omega,app_tx HX.out (by omega) (one_tx (by simp only;omega)),HR.out.1,by rw[pccs_app,List.length_append];exact H3.out.1,H3.out.2.1⟩,by simp[intOf];omega⟩
          ·rw[if_neg h4] at hRR
           have t4:(q.mode==4)=false:=by simpa using h4
           by_cases h5:q.mode=5
           ·rw[if_pos h5] at hRR
            have Hm:=Lib.hid h5
            have hq8:=hq5 (by omega)
            clear h5 h4 t4 h13 t13 hlone h14 t14 hq5 hq7
            cases hop:q.op
            ·have Ho:=Lib.hid hop
             have hE:endQ q=toN q-1:=by unfold endQ;rw[hop];rfl
             rw[hE] at hRR
             have hq9:=hq8 hop
             have v4:(0:Int)≤(toN q:Int)-1:=by omega
             obtain⟨D,hD⟩:∃D,D=dblR l L (toN q-1) (l.length+1) (y+1) [] []:=⟨_,rfl⟩
             have hDe:D=dblF l L (toN q-1) (l.length+1) (y+1) [] false:=by rw[hD,dbl_same HL.out.2 _ (by omega)];rfl
             have hDl:D.length≤2*((toN q-1)-(y+1))+1:=by rw[hDe];have:=dbl_len HL.out.2 (toN q-1) (l.length+1) (y+1) [] false;simpa [ne01] using this
             have hDt:∀x∈D,x.tx.length≤l.length+toN q:=by rw[hDe];intro x hx;have:=dbl_tx HL.out.2 (toN q-1) (by omega) (l.length+1) (y+1) [] false (by simp) (by omega) x hx;omega
             rw[←hD] at hRR
             have HD:=Lib.hid hD
             have HDt:=Lib.hid hDt
             clear hE hop hq8 hD hDe hDt
             have HR:=Lib.hid (And.intro hRR (And.intro hown (And.intro hb (And.intro hf hbx))))
             clear hRR hown hb hf hbx
             go_upto_region 7 with (
               (go_at_call 81
                refine(find_n HL.out.2 y c n A _ hLl HL.out.1 ((H.out.1.keep HR.out.2.2.1 (Nat.le_refl _)).mono HR.out.2.2.1.size)).mono ?_
                rintro e2 w2 ⟨he2,hb2⟩
                rw[HR.out.2.2.2.1] at he2
                simp only[findN] at he2
                rw[Hm.out] at he2
                rw[Ho.out] at he2
                subst he2
                have hk2:=Bk.new w2 136 #[.int .i64 (5:Int),.int .i64 (y:Int),.int .i64 (toN q:Int),.int .i64 q.up,.bool false]
                have ho2:=(own_below HR.out.2.1 hb2).alloc (.cells #[.int .i64 (5:Int),.int .i64 (y:Int),.int .i64 (toN q:Int),.int .i64 q.up,.bool false] 136)
                have hB2:Below w1.heap.size w1 (w2.alloc (.cells #[.int .i64 (5:Int),.int .i64 (y:Int),.int .i64 (toN q:Int),.int .i64 q.up,.bool false] 136)):=(HR.out.2.2.1.trans (hb2.mono HR.out.2.2.1.size)).alloc (by have:=hb2.size;have:=HR.out.2.2.1.size;omega) _
                obtain⟨p0,p1,p2,p3,p4⟩:=five_of hk2
                have hlw2:=hk2.lt
                have H2:=Lib.hid (And.intro ho2 (And.intro hB2 hk2))
                clear hb2 ho2 hB2 hk2))
             refine wp_region_lit ?_
             iterate 19
               with_reducible refine wpList_step (fun K hK=>?_)
               go_simp
               refine hK _ _ ?_
               clear hK K
             with_reducible refine wpList_nil ?_
             go_wp2_with (first
               | (go_at_call 83
                  refine(double_ri l L HL.out.2 ((y:Int)+1) ((toN q:Int)-1) (y+1) (toN q-1) (by omega) (by omega) n c A _ hl hLl HL.out.1 ((H.out.1.keep H2.out.2.1 (Nat.le_refl _)).mono H2.out.2.1.size) (by omega) (by omega) D HD.out).mono ?_
                  rintro e3 w3 ⟨v3,rfl,ho3,hb3⟩
                  obtain⟨A3,n3,c3,rfl⟩:=own_form' ho3
                  obtain rfl:=own_len ho3
                  have hk3:=H2.out.2.2.below hb3 H2.out.2.2.lt
                  have H3:=Lib.hid (And.intro ho3 (And.intro (own_below H2.out.1 hb3) (And.intro (H2.out.2.1.trans (hb3.mono H2.out.2.1.size)) hk3)))
                  clear ho3 hb3 hk3)
               | (at_builtin
                  refine wpList_append_rd rfl (.tmp 117) (.tmp 124) 99 rfl w1.heap.size 102 i0 _ 3 24 Tryz.underlying99 hi0 hz0 hz1 hz2 rfl (by decide) (.slice A1 out.length c1) out.length (pccs out) rfl H3.out.2.1 (.slice A3 D.length c3) D.length w3.heap.size (pccs D) rfl (Rd.of_own H3.out.1) (one_pcs _) (by unfold maxLen;omega) (by omega) (H3.out.2.2.1.size) ?_
                  intro v4 w4 hown4 hg4 hv4
                  have hb4:Below w1.heap.size w1 w4:=H3.out.2.2.1.grown hg4 H3.out.2.2.1.size (fun k hk=>(H3.out.2.1.lt k hk).1)
                  have H4:=Lib.hid (And.intro hown4 hb4)
                  clear hown4 hg4 hv4 hb4))
             exact⟨⟨mm,toN q,out++D,true,_,by go_num,rfl,rfl,by omega,by omega,by simp;omega,app_tx HX.out (by omega) HDt.out,HR.out.1,by rw[pccs_app,List.length_append];exact H4.out.1,H4.out.2⟩,by simp[intOf];omega⟩
            ·have Ho:=Lib.hid hop
             have hE:endQ q=toN q:=by unfold endQ;rw[hop];rfl
             rw[hE] at hRR
             skip
             have v4:(0:Int)≤(toN q:Int)-1:=by omega
             obtain⟨D,hD⟩:∃D,D=dblR l L (toN q) (l.length+1) (y+1) [] []:=⟨_,rfl⟩
             have hDe:D=dblF l L (toN q) (l.length+1) (y+1) [] false:=by rw[hD,dbl_same HL.out.2 _ (by omega)];rfl
             have hDl:D.length≤2*((toN q)-(y+1))+1:=by rw[hDe];have:=dbl_len HL.out.2 (toN q) (l.length+1) (y+1) [] false;simpa [ne01] using this
             have hDt:∀x∈D,x.tx.length≤l.length+toN q:=by rw[hDe];intro x hx;have:=dbl_tx HL.out.2 (toN q) (by omega) (l.length+1) (y+1) [] false (by simp) (by omega) x hx;omega
             rw[←hD] at hRR
             have HD:=Lib.hid hD
             have HDt:=Lib.hid hDt
             clear hE hop hq8 hD hDe hDt
             have HR:=Lib.hid (And.intro hRR (And.intro hown (And.intro hb (And.intro hf hbx))))
             clear hRR hown hb hf hbx
             go_upto_region 7 with (
               (go_at_call 81
                refine(find_n HL.out.2 y c n A _ hLl HL.out.1 ((H.out.1.keep HR.out.2.2.1 (Nat.le_refl _)).mono HR.out.2.2.1.size)).mono ?_
                rintro e2 w2 ⟨he2,hb2⟩
                rw[HR.out.2.2.2.1] at he2
                simp only[findN] at he2
                rw[Hm.out] at he2
                rw[Ho.out] at he2
                subst he2
                have hk2:=Bk.new w2 136 #[.int .i64 (5:Int),.int .i64 (y:Int),.int .i64 (toN q:Int),.int .i64 q.up,.bool true]
                have ho2:=(own_below HR.out.2.1 hb2).alloc (.cells #[.int .i64 (5:Int),.int .i64 (y:Int),.int .i64 (toN q:Int),.int .i64 q.up,.bool true] 136)
                have hB2:Below w1.heap.size w1 (w2.alloc (.cells #[.int .i64 (5:Int),.int .i64 (y:Int),.int .i64 (toN q:Int),.int .i64 q.up,.bool true] 136)):=(HR.out.2.2.1.trans (hb2.mono HR.out.2.2.1.size)).alloc (by have:=hb2.size;have:=HR.out.2.2.1.size;omega) _
                obtain⟨p0,p1,p2,p3,p4⟩:=five_of hk2
                have hlw2:=hk2.lt
                have H2:=Lib.hid (And.intro ho2 (And.intro hB2 hk2))
                clear hb2 ho2 hB2 hk2))
             refine wp_region_lit ?_
             iterate 19
               with_reducible refine wpList_step (fun K hK=>?_)
               go_simp
               refine hK _ _ ?_
               clear hK K
             with_reducible refine wpList_nil ?_
             go_wp2_with (first
               | (go_at_call 83
                  refine(double_ri l L HL.out.2 ((y:Int)+1) ((toN q:Int)) (y+1) (toN q) (by omega) (by omega) n c A _ hl hLl HL.out.1 ((H.out.1.keep H2.out.2.1 (Nat.le_refl _)).mono H2.out.2.1.size) (by omega) (by omega) D HD.out).mono ?_
                  rintro e3 w3 ⟨v3,rfl,ho3,hb3⟩
                  obtain⟨A3,n3,c3,rfl⟩:=own_form' ho3
                  obtain rfl:=own_len ho3
                  have hk3:=H2.out.2.2.below hb3 H2.out.2.2.lt
                  have H3:=Lib.hid (And.intro ho3 (And.intro (own_below H2.out.1 hb3) (And.intro (H2.out.2.1.trans (hb3.mono H2.out.2.1.size)) hk3)))
                  clear ho3 hb3 hk3)
               | (at_builtin
                  refine wpList_append_rd rfl (.tmp 117) (.tmp 124) 99 rfl w1.heap.size 102 i0 _ 3 24 Tryz.underlying99 hi0 hz0 hz1 hz2 rfl (by decide) (.slice A1 out.length c1) out.length (pccs out) rfl H3.out.2.1 (.slice A3 D.length c3) D.length w3.heap.size (pccs D) rfl (Rd.of_own H3.out.1) (one_pcs _) (by unfold maxLen;omega) (by omega) (H3.out.2.2.1.size) ?_
                  intro v4 w4 hown4 hg4 hv4
                  have hb4:Below w1.heap.size w1 w4:=H3.out.2.2.1.grown hg4 H3.out.2.2.1.size (fun k hk=>(H3.out.2.1.lt k hk).1)
                  have H4:=Lib.hid (And.intro hown4 hb4)
                  clear hown4 hg4 hv4 hb4))
             exact⟨⟨mm,toN q,out++D,true,_,by go_num,rfl,rfl,by omega,by omega,by simp;omega,app_tx HX.out (by omega) HDt.out,HR.out.1,by rw[pccs_app,List.length_append];exact H4.out.1,H4.out.2⟩,by simp[intOf];omega⟩
           ·rw[if_neg h5] at hRR
            have t5:(q.mode==5)=false:=by simpa using h5
            have h12:q.mode=12→¬toN q=y+1:=fun h1 h2=>hlone (by unfold loneB;simp[h1,h2])
            clear h5 h4 h13 hlone h14 hq5 hq7
            obtain⟨S,hS⟩:∃S,S=sub l y (toN q):=⟨_,rfl⟩
            have hext:(ByteArray.mk l.toArray).extract y (toN q)=⟨S.toArray⟩:=by rw[ba_extract,hS];rfl
            have hSl:S.length≤(toN q)-y:=by have:=sub_le l y (toN q);rw[hS];omega
            rw[←hS] at hRR
            clear hS
            by_cases hm12:q.mode=12
            ·have t12:(q.mode==12)=true:=by simpa using hm12
             have t2:((toN q:Int)==(y:Int)+1)=false:=by have:=h12 hm12;rw[beq_eq_false_iff_ne];omega
             clear hm12 h12
             have HR:=Lib.hid (And.intro hRR (And.intro hown (And.intro hb (And.intro hf hbx))))
             clear hRR hown hb hf hbx
             go_upto_region 7 with (
               (go_at_call 81
                refine(find_n HL.out.2 y c n A _ hLl HL.out.1 ((H.out.1.keep HR.out.2.2.1 (Nat.le_refl _)).mono HR.out.2.2.1.size)).mono ?_
                rintro e2 w2 ⟨he2,hb2⟩
                rw[HR.out.2.2.2.1] at he2
                simp only[findN] at he2
                subst he2
                have hk2:=Bk.new w2 136 #[.int .i64 q.mode,.int .i64 (y:Int),.int .i64 (toN q:Int),.int .i64 q.up,.bool q.op]
                have ho2:=(own_below HR.out.2.1 hb2).alloc (.cells #[.int .i64 q.mode,.int .i64 (y:Int),.int .i64 (toN q:Int),.int .i64 q.up,.bool q.op] 136)
                have hB2:Below w1.heap.size w1 (w2.alloc (.cells #[.int .i64 q.mode,.int .i64 (y:Int),.int .i64 (toN q:Int),.int .i64 q.up,.bool q.op] 136)):=(HR.out.2.2.1.trans (hb2.mono HR.out.2.2.1.size)).alloc (by have:=hb2.size;have:=HR.out.2.2.1.size;omega) _
                obtain⟨p0,p1,p2,p3,p4⟩:=five_of hk2
                have hlw2:=hk2.lt
                have H2:=Lib.hid (And.intro ho2 (And.intro hB2 hk2))
                clear hb2 ho2 hB2 hk2))
             refine wp_region_lit ?_
             iterate 19
               with_reducible refine wpList_step (fun K hK=>?_)
               go_simp
               refine hK _ _ ?_
               clear hK K
             with_reducible refine wpList_nil ?_
             go_wp2_with (first
               | (at_builtin
                  refine wpList_append_rd rfl (.tmp 126) (.tmp 134) 99 rfl w1.heap.size 102 i0 _ 3 24 Tryz.underlying99 hi0 hz0 hz1 hz2 rfl (by decide) (.slice A1 out.length c1) out.length (pccs out) rfl (H2.out.1.alloc _) (.slice (some ⟨w2.heap.size+1,0,none⟩) 1 1) 1 (w2.heap.size+1+1) (pccs [⟨true,false,S⟩]) rfl (rd_newk _ (w2.heap.size+1) (by simp) (pccs [⟨true,false,S⟩]) 102 3 1 rfl (by omega)) (one_pcs _) (by unfold maxLen;omega) (by omega) (by have:=H2.out.2.1.size;simp at this ⊢;omega) ?_
                  intro v3 w3 hown3 hg3 hv3
                  have hb3:Below w1.heap.size w1 w3:=(H2.out.2.1.alloc (by have:=H2.out.2.1.size;simp at this ⊢;omega) _).grown hg3 (by have:=H2.out.2.1.size;simp at this ⊢;omega) (fun k hk=>(H2.out.1.lt k hk).1)
                  have hk3:=(H2.out.2.2.alloc (.cells (pccs [⟨true,false,S⟩]).toArray 102)).grown hg3 (own_ne H2.out.1 H2.out.2.2 (by decide)).symm
                  obtain⟨s0,s1,s2,s3,s4⟩:=five_of hk3
                  have H3:=Lib.hid (And.intro hown3 (And.intro hb3 hk3))
                  clear hown3 hg3 hv3 hb3 hk3))
             exact⟨⟨mm,toN q,out++[⟨true,false,S⟩],true,_,by go_num,rfl,rfl,by omega,by omega,by simp;omega,app_tx HX.out (by omega) (one_tx (by simp only;omega)),HR.out.1,by rw[pccs_app,List.length_append];exact H3.out.1,H3.out.2.1⟩,by simp[intOf];omega⟩
            ·have t12:(q.mode==12)=false:=by simpa using hm12
             clear hm12 h12
             have HR:=Lib.hid (And.intro hRR (And.intro hown (And.intro hb (And.intro hf hbx))))
             clear hRR hown hb hf hbx
             go_upto_region 7 with (
               (go_at_call 81
                refine(find_n HL.out.2 y c n A _ hLl HL.out.1 ((H.out.1.keep HR.out.2.2.1 (Nat.le_refl _)).mono HR.out.2.2.1.size)).mono ?_
                rintro e2 w2 ⟨he2,hb2⟩
                rw[HR.out.2.2.2.1] at he2
                simp only[findN] at he2
                subst he2
                have hk2:=Bk.new w2 136 #[.int .i64 q.mode,.int .i64 (y:Int),.int .i64 (toN q:Int),.int .i64 q.up,.bool q.op]
                have ho2:=(own_below HR.out.2.1 hb2).alloc (.cells #[.int .i64 q.mode,.int .i64 (y:Int),.int .i64 (toN q:Int),.int .i64 q.up,.bool q.op] 136)
                have hB2:Below w1.heap.size w1 (w2.alloc (.cells #[.int .i64 q.mode,.int .i64 (y:Int),.int .i64 (toN q:Int),.int .i64 q.up,.bool q.op] 136)):=(HR.out.2.2.1.trans (hb2.mono HR.out.2.2.1.size)).alloc (by have:=hb2.size;have:=HR.out.2.2.1.size;omega) _
                obtain⟨p0,p1,p2,p3,p4⟩:=five_of hk2
                have hlw2:=hk2.lt
                have H2:=Lib.hid (And.intro ho2 (And.intro hB2 hk2))
                clear hb2 ho2 hB2 hk2))
             refine wp_region_lit ?_
             iterate 19
               with_reducible refine wpList_step (fun K hK=>?_)
               go_simp
               refine hK _ _ ?_
               clear hK K
             with_reducible refine wpList_nil ?_
             go_wp2_with (first
               | (at_builtin
                  refine wpList_append_rd rfl (.tmp 126) (.tmp 134) 99 rfl w1.heap.size 102 i0 _ 3 24 Tryz.underlying99 hi0 hz0 hz1 hz2 rfl (by decide) (.slice A1 out.length c1) out.length (pccs out) rfl (H2.out.1.alloc _) (.slice (some ⟨w2.heap.size+1,0,none⟩) 1 1) 1 (w2.heap.size+1+1) (pccs [⟨true,false,S⟩]) rfl (rd_newk _ (w2.heap.size+1) (by simp) (pccs [⟨true,false,S⟩]) 102 3 1 rfl (by omega)) (one_pcs _) (by unfold maxLen;omega) (by omega) (by have:=H2.out.2.1.size;simp at this ⊢;omega) ?_
                  intro v3 w3 hown3 hg3 hv3
                  have hb3:Below w1.heap.size w1 w3:=(H2.out.2.1.alloc (by have:=H2.out.2.1.size;simp at this ⊢;omega) _).grown hg3 (by have:=H2.out.2.1.size;simp at this ⊢;omega) (fun k hk=>(H2.out.1.lt k hk).1)
                  have hk3:=(H2.out.2.2.alloc (.cells (pccs [⟨true,false,S⟩]).toArray 102)).grown hg3 (own_ne H2.out.1 H2.out.2.2 (by decide)).symm
                  obtain⟨s0,s1,s2,s3,s4⟩:=five_of hk3
                  have H3:=Lib.hid (And.intro hown3 (And.intro hb3 hk3))
                  clear hown3 hg3 hv3 hb3 hk3))
             exact⟨⟨mm,toN q,out++[⟨true,false,S⟩],true,_,by go_num,rfl,rfl,by omega,by omega,by simp;omega,app_tx HX.out (by omega) (one_tx (by simp only;omega)),HR.out.1,by rw[pccs_app,List.length_append];exact H3.out.1,H3.out.2.1⟩,by simp[intOf];omega⟩
    ·have u1:¬(y:Int)<(l.length:Int):=by omega
     rw[if_neg hy] at hRR
     have HR:=Lib.hid (And.intro hRR (And.intro hown hb))
     clear hRR hown hb
     go_wp2_with fail
     go_ret
     exact⟨_,rfl,by rw[HR.out.1];exact own_base HR.out.2.1 H.out.2.size,H.out.2.trans (HR.out.2.2.mono H.out.2.size)⟩
end Go.Proofs.YtnclfgkpcpcapaaGreatDoor
