/- Delimiters in memory; slices.Clone of them. -/
import Derived.Test.YtlbfdbinaekjoaaGreatDoorMo9
import Derived.Test.YtlbfdbinaekjoaaGreatDoorLa9
import Derived.Test.YtlbfdbinaekjoaaGreatDoorTk9
import Derived.Test.YtlbfdbinaekjoaaGreatDoorClose2
namespace Go.Proofs.YtlbfdbinaekjoaaGreatDoor
open Go.RowKit
set_option linter.unusedVariables false
set_option linter.unusedSimpArgs false
set_option maxRecDepth 100000
def dcl (d:Dl):List Value:=[.string ⟨d.1.toArray⟩,.bool d.2]
def dcls (L:List Dl):List Value:=L.flatMap dcl
theorem dcls_len (L:List Dl):(dcls L).length=L.length*2:=by
  induction L with
  | nil=>rfl
  | cons x r ih=>simp[dcls,dcl] at ih ⊢;omega
theorem dcls_app (L M:List Dl):dcls (L++M)=dcls L++dcls M:=by simp[dcls]
theorem one_dcls (L:List Dl):∀u∈dcls L,u.oneCell'=true:=by
  intro u hu
  obtain⟨d,_,hd⟩:=List.mem_flatMap.1 hu
  simp[dcl] at hd
  rcases hd with rfl|rfl<;>rfl
theorem Tryz.infoDelim:(Tryz.prog.info? 94).map (fun i=>(i.zero,i.size,i.bytes))=some (some (.agg #[.string ⟨#[]⟩,.bool false]),2,24):=by kernel_rfl
theorem Rd.form {w:World} {B sz n:Nat} {v:Value} {xs:List Value} (h:Rd w B sz v n xs):∃A c,v=.slice A n c∧n≤c∧c≤maxLen∧(A=none→c=0):=by
  obtain⟨_,A,c,h2,h3,h4,h5,_⟩:=h
  exact⟨A,c,h2,h3,h4,h5⟩
theorem rd_first {w:World} {B n c:Nat} {A:Option Addr} {d:Dl} {r:List Dl} (h:Rd w B 2 (.slice A n c) n (dcls (d::r))) (hn:n=r.length+1) :
    ∃g o,A=some ⟨g,o,none⟩∧g<B∧n≤c∧c≤maxLen∧w.cell? ⟨g,o,none⟩=some (.string ⟨d.1.toArray⟩)∧w.cell? ⟨g,o+1,none⟩=some (.bool d.2):=by
  obtain⟨_,A',c',h2,h3,h4,h5,h6⟩:=h
  cases h2
  obtain⟨g,o,rfl,hg,hc⟩:=h6 (by omega)
  exact⟨g,o,rfl,hg,h3,h4,hc 0 _ rfl,hc 1 _ rfl⟩
theorem rd_tail {w:World} {B n c:Nat} {g o:Nat} {d:Dl} {r:List Dl} (h:Rd w B 2 (.slice (some ⟨g,o,none⟩) n c) n (dcls (d::r))) (hn:n=r.length+1) :
    Rd w B 2 (.slice (some ⟨g,o+2,none⟩) (n-1) (c-1)) r.length (dcls r):=by
  obtain⟨_,A',c',h2,h3,h4,h5,h6⟩:=h
  cases h2
  obtain⟨g',o',e,hg,hc⟩:=h6 (by omega)
  cases e
  refine⟨by rw[dcls_len],some ⟨g,o+2,none⟩,c-1,by rw[show n-1=r.length by omega],by omega,by omega,(fun h=>by cases h),fun _=>⟨g,o+2,rfl,hg,fun j u hj=>?_⟩⟩
  rw[show o+2+j=o+(j+2) by omega]
  exact hc (j+2) u hj
set_option maxHeartbeats 1000000 in
theorem clone9_m (L:List Dl) (A:Option Addr) (n c:Nat) (w:World) (hn:n=L.length) (h:Rd w w.heap.size 2 (.slice A n c) n (dcls L)) (hl:n≤100000) :
    Calls Tryz.prog 71 #[.slice A n c] w fun e w'=>∃v,e=.returned v∧w'.ownsRow w.heap.size 94 2 v n (dcls L)∧Below w.heap.size w w':=by
  have hnil:=fun (W:World)=>Lib.run_eql_slice_nil (P:=Tryz.prog) W
  cases A with
  | none=>
    obtain⟨h1,A',c',h2,h3,h4,h5,h6⟩:=h
    cases h2
    have hc:=h5 rfl
    subst hc
    obtain rfl:n=0:=by omega
    obtain rfl:L=[]:=List.eq_nil_of_length_eq_zero hn.symm
    clear h1 h4 h5 h6 h3 hn hl
    go_enter Tryz.func71,Tryz.ntmps71
    go_wp2
    go_ret
    exact⟨_,rfl,⟨rfl,.inl ⟨rfl,rfl⟩⟩,Below.refl _ _⟩
  | some A=>
    obtain⟨i0,hi,hz0,hz1,hz2⟩:=info_parts Tryz.infoDelim
    have H:=Lib.hid h
    clear h
    go_enter Tryz.func71,Tryz.ntmps71
    go_wp2_with (first
      | (at_builtin
         refine wpList_append_rd rfl (.tmp 5) (.tmp 6) 45 rfl w.heap.size 94 i0 _ 2 24 Tryz.underlying45 hi hz0 hz1 hz2 rfl (by decide) (.slice (some ⟨w.heap.size,0,none⟩) 0 0) 0 [] rfl (World.ownsRow_made _ _ _ (Nat.le_refl _) (by unfold maxLen;omega) (by simp)) (.slice (some A) n c) n w.heap.size (dcls L) rfl (H.out.keep (by go_grown) (Nat.le_refl _)) (one_dcls L) (by unfold maxLen;omega) (by omega) (by simp) ?_
         intro v1 w1 hown1 hg1 hv1))
    go_ret
    exact⟨v1,rfl,by simpa using hown1,((Below.refl _ _).alloc (Nat.le_refl _) _).grown hg1 (by simp) (by intro k hk;simp[Value.ownBlock] at hk;omega)⟩
end Go.Proofs.YtlbfdbinaekjoaaGreatDoor
namespace Go.Proofs.YtlbfdbinaekjoaaGreatDoor
open Go.RowKit
set_option linter.unusedVariables false
set_option linter.unusedSimpArgs false
set_option maxRecDepth 100000
def tkv (t:Tk):Value:=.agg #[.int .i64 (t.kd:Int),.int .i64 (t.fr:Int),.int .i64 (t.to:Int),.bool t.op]
theorem opN_le (d:List UInt8):∀n,(opN d n).2≤n
  | 0=>Nat.le_refl _
  | n+1=>by unfold opN;split;exact Nat.le_refl _;have:=opN_le d n;omega
theorem opAt_le (l:List UInt8) (x:Nat):(opAt l x).2≤3:=by
  unfold opAt
  split
  ·simp
  ·have:=opN_le (l.drop x) (min 3 (l.length-x));omega
theorem plain_cases (l:List UInt8) (x:Nat) (T:Tk) (hT:T=plainL l x) :
    (blankB (l.getD x 0)=true∧T=⟨1,x,blankL l x,false⟩) ∨
    (blankB (l.getD x 0)=false∧contB l x=true∧T=⟨1,x,blankL l x,false⟩) ∨
    (blankB (l.getD x 0)=false∧contB l x=false∧((l.getD x 0).toNat==10)=true∧T=⟨2,x,x+1,false⟩) ∨
    (blankB (l.getD x 0)=false∧contB l x=false∧((l.getD x 0).toNat==10)=false∧((l.getD x 0).toNat==35)=true∧T=⟨3,x,lineN l x,false⟩) ∨
    (blankB (l.getD x 0)=false∧contB l x=false∧((l.getD x 0).toNat==10)=false∧((l.getD x 0).toNat==35)=false∧0<(opAt l x).2∧T=⟨4,x,x+(opAt l x).2,false⟩) ∨
    (blankB (l.getD x 0)=false∧contB l x=false∧((l.getD x 0).toNat==10)=false∧((l.getD x 0).toNat==35)=false∧¬0<(opAt l x).2∧numB l x=true∧0<digN l x∧T=⟨5,x,x+digN l x,false⟩) ∨
    (blankB (l.getD x 0)=false∧contB l x=false∧((l.getD x 0).toNat==10)=false∧((l.getD x 0).toNat==35)=false∧¬0<(opAt l x).2∧numB l x=false∧T=⟨6,x,x+endL l x,!shutB (sub l x (x+endL l x))⟩):=by
  unfold plainL at hT
  generalize l.getD x 0=c at hT ⊢
  cases h1:blankB c
  ·cases h2:contB l x
   ·rw[if_neg (by rw[h1,h2];simp)] at hT
    by_cases h3:c.toNat=10
    ·rw[if_pos h3] at hT;simp[hT,h3]
    ·rw[if_neg h3] at hT
     by_cases h4:c.toNat=35
     ·rw[if_pos h4] at hT;simp[hT,h4]
     ·rw[if_neg h4] at hT
      by_cases h5:0<(opAt l x).2
      ·rw[if_pos h5] at hT;simp[hT,h3,h4,h5]
      ·rw[if_neg h5] at hT
       cases h6:numB l x
       ·rw[if_neg (by rw[h6];decide)] at hT;simp[hT,h3,h4,h5]
       ·rw[if_pos h6] at hT
        have h7:0<digN l x:=by unfold numB at h6;simp at h6;exact h6.1.1
        simp[hT,h3,h4,h5,h7]
   ·rw[if_pos (.inr h2)] at hT;simp[hT]
  ·rw[if_pos (.inl h1)] at hT;simp[hT]
theorem Bk.four {w:World} {g:Nat} {t:TypeId} {x y z u:Value} (h:Bk w g t #[x,y,z,u]):w.cell? ⟨g,0,none⟩=some x∧w.cell? ⟨g,1,none⟩=some y∧w.cell? ⟨g,2,none⟩=some z∧w.cell? ⟨g,3,none⟩=some u∧w.frozen? ⟨g,0,none⟩=false∧w.frozen? ⟨g,1,none⟩=false∧w.frozen? ⟨g,2,none⟩=false∧w.frozen? ⟨g,3,none⟩=false:=
  ⟨by rw[h.cell];rfl,by rw[h.cell];rfl,by rw[h.cell];rfl,by rw[h.cell];rfl,h.frozen 0,h.frozen 1,h.frozen 2,h.frozen 3⟩
set_option maxHeartbeats 4000000 in
theorem plain9_m (l:List UInt8) (x:Nat) (w:World) (hl:l.length≤900) (hx:x<l.length) :
    Calls Tryz.prog 62 #[.string ⟨l.toArray⟩,.int .i64 (x:Int)] w fun e w'=>e=.returned (tkv (plainL l x))∧Below w.heap.size w w':=by
  have u1:(x:Int)<(l.length:Int):=by omega
  have u2:(0:Int)≤(x:Int):=by omega
  have hx0:x≤900:=by omega
  have hl0:l.length≤100000:=by omega
  obtain⟨d,hd⟩:∃d,l[x]? = some d:=⟨_,List.getElem?_eq_getElem hx⟩
  obtain⟨hL1,hL2⟩:=List.getElem?_eq_some_iff.1 hd
  have hL:∃h:x<(ByteArray.mk l.toArray).size,(ByteArray.mk l.toArray)[x]'h=d:=⟨hL1,hL2⟩
  obtain⟨hL3,hL4⟩:=hL
  have hg:l.getD x 0=d:=by rw[List.getD_eq_getElem?_getD,hd];rfl
  obtain⟨T,hT⟩:∃T,T=plainL l x:=⟨_,rfl⟩
  have hto:=plainL_to l x hx
  have hc:=plain_cases l x T hT
  rw[←hT] at hto ⊢
  rw[hg] at hc
  have hop:(opAt l x).2≤900:=Nat.le_trans (opAt_le l x) (by decide)
  clear hd hL2 hg hT
  have t1:(clsOf d==1)=blankB d:=cls_blank d
  have t10:((d.toNat:Int)==10)=(d.toNat==10):=by rw[Bool.eq_iff_iff];simp;omega
  have t35:((d.toNat:Int)==35)=(d.toNat==35):=by rw[Bool.eq_iff_iff];simp;omega
  obtain⟨o,ho⟩:∃o,o=opAt l x:=⟨_,rfl⟩
  rw[←ho] at hop hc
  have HO:=Lib.hid ho
  clear ho
  rcases hc with ⟨c1,hT⟩|⟨c1,c2,hT⟩|⟨c1,c2,c3,hT⟩|⟨c1,c2,c3,c4,hT⟩|⟨c1,c2,c3,c4,c5,hT⟩|⟨c1,c2,c3,c4,c5,c6,c7,hT⟩|⟨c1,c2,c3,c4,c5,c6,hT⟩
  rotate_right
  ·rw[c1] at t1
   rw[c3] at t10
   rw[c4] at t35
   have hel:=endL_le l x
   obtain⟨S,hS⟩:∃S,S=sub l x (x+endL l x):=⟨_,rfl⟩
   rw[←hS] at hT
   have hSl:S.length≤900:=by rw[hS];unfold sub;simp;omega
   obtain⟨E,hE⟩:∃E,E=x+endL l x:=⟨_,rfl⟩
   have hext:(ByteArray.mk l.toArray).extract x E=⟨S.toArray⟩:=by rw[ba_extract,hS,hE];rfl
   rw[←hE] at hT hS
   have hE1:x≤E:=by omega
   have hE2:E≤l.length:=by omega
   have v1:(x:Int)≤(E:Int):=by omega
   have v2:(E:Int)≤(l.length:Int):=by omega
   obtain⟨C,hC⟩:∃C,C=clo (rAt S S.length).1:=⟨_,rfl⟩
   have hsh:shutB S=C.isEmpty:=by unfold shutB;rw[←hC];cases C<;>simp
   rw[hsh] at hT
   have HC:=Lib.hid (And.intro c2 (And.intro c6 (And.intro hE (And.intro hext (And.intro hSl hC)))))
   have HT:=Lib.hid (And.intro hT hto)
   clear hT hto c1 c2 c3 c4 c6 hel hS hSl hE hext hC hsh
   go_enter Tryz.func62,Tryz.ntmps62
   go_wp2_with (first
     | (go_at_call 72
        refine(opat_m l x _ (by omega) hx).mono ?_
        rintro e w2 ⟨he,rfl⟩
        rw[←HO.out] at he
        subst he)
     | (go_at_call 73
        refine(of_c _ _).mono ?_
        rintro e w2 ⟨rfl,rfl⟩)
     | (go_at_call 74
        refine(cont_m l x _ (by omega) (by omega)).mono ?_
        rintro e w2 ⟨he,rfl⟩
        rw[HC.out.1] at he
        subst he)
     | (go_at_call 77
        refine(number_m l x _ (by omega) (by omega)).mono ?_
        rintro e w2 ⟨he,rfl⟩
        rw[if_neg (by rw[HC.out.2.1];decide)] at he
        subst he)
     | (go_at_call 78
        refine(end_m l x _ (by omega) (by omega)).mono ?_
        rintro e w2 ⟨he,hb2⟩
        rw[←HC.out.2.2.1] at he
        subst he
        have k0:Bk w2 w.heap.size 69 #[.int .i64 0,.int .i64 0,.int .i64 0,.bool false]:=((Bk.new w _ _).alloc _).below hb2 (by simp<;>omega)
        have k1:Bk w2 (w.heap.size+1) 69 #[.int .i64 0,.int .i64 (x:Int),.int .i64 ((x:Int)+1),.bool false]:=(bk_second w _ _ _ _).below hb2 (by simp<;>omega)
        have hbw:Below w.heap.size w w2:=(((Below.refl _ w).alloc (Nat.le_refl _) _).alloc (by simp) _).trans (hb2.mono (by simp<;>omega))
        have hsz:w.heap.size+2≤w2.heap.size:=by have:=hb2.size;simpa using this
        obtain⟨y0,y1,y2,y3,y4,y5,y6,y7⟩:=k1.four
        have H2:=Lib.hid (And.intro k0 (And.intro k1 hbw))
        clear hb2 k0 k1 hbw)
     | (go_at_call 79
        rw[HC.out.2.2.2.1]
        refine(closing_m S _ HC.out.2.2.2.2.1).mono ?_
        rintro e w4 ⟨he,hb4⟩
        rw[←HC.out.2.2.2.2.2] at he
        subst he
        have k0:Bk w4 w.heap.size 69 #[.int .i64 0,.int .i64 0,.int .i64 0,.bool false]:=((H2.out.1.far (p:=⟨w.heap.size+1,0,none⟩) (by simp) _).far (p:=⟨w.heap.size+1,2,none⟩) (by simp) _).below hb4 (by simp[World.setCell]<;>omega)
        have k1:Bk w4 (w.heap.size+1) 69 #[.int .i64 6,.int .i64 (x:Int),.int .i64 (E:Int),.bool false]:=((H2.out.2.1.set 0 (.int .i64 6)).set 2 (.int .i64 (E:Int))).below hb4 (by simp[World.setCell]<;>omega)
        have hbw:Below w.heap.size w w4:=((H2.out.2.2.setCell (p:=⟨w.heap.size+1,0,none⟩) (by simp) _).setCell (p:=⟨w.heap.size+1,2,none⟩) (by simp) _).trans (hb4.mono (by simp[World.setCell]<;>omega))
        have hsz4:w.heap.size+2≤w4.heap.size:=by have:=hb4.size;simp[World.setCell] at this;omega
        obtain⟨z0,z1,z2,z3,z4,z5,z6,z7⟩:=k1.four
        obtain⟨x0,x1,x2,x3,x4,x5,x6,x7⟩:=k0.four
        have H4:=Lib.hid (And.intro k0 (And.intro k1 hbw))
        clear hb4 k0 k1 hbw y0 y1 y2 y3 y4 y5 y6 y7))
   have hb5:=((((H4.out.2.2.setCell (p:=⟨w.heap.size+1,3,none⟩) (by simp) (.bool !C.isEmpty)).setCell (p:=⟨w.heap.size,0,none⟩) (Nat.le_refl _) (.int .i64 6)).setCell (p:=⟨w.heap.size,1,none⟩) (Nat.le_refl _) (.int .i64 (x:Int))).setCell (p:=⟨w.heap.size,2,none⟩) (Nat.le_refl _) (.int .i64 (E:Int))).setCell (p:=⟨w.heap.size,3,none⟩) (Nat.le_refl _) (.bool !C.isEmpty)
   have k5:=((((H4.out.1.far (p:=⟨w.heap.size+1,3,none⟩) (by simp) (.bool !C.isEmpty)).set 0 (.int .i64 6)).set 1 (.int .i64 (x:Int))).set 2 (.int .i64 (E:Int))).set 3 (.bool !C.isEmpty)
   generalize ((((w4.setCell _ _).setCell _ _).setCell _ _).setCell _ _).setCell _ _=W5 at hb5 k5 ⊢
   obtain⟨q0,q1,q2,q3,_⟩:=Bk.four (show Bk W5 w.heap.size 69 #[.int .i64 6,.int .i64 (x:Int),.int .i64 (E:Int),.bool !C.isEmpty] from k5)
   exact bodyPost_ret (v:=tkv T) (by rw[HT.out.1];simp[results,Tryz.results62,go_sem,tkv,q0,q1,q2,q3]) rfl ⟨rfl,hb5⟩
  all_goals (
    rw[c1] at t1
    try rw[c3] at t10
    try rw[c4] at t35
    first
      | (have HC:=Lib.hid (And.intro c2 c6);clear c2 c6)
      | (have HC:=Lib.hid (And.intro c2 True.intro);clear c2)
      | (have HC:=Lib.hid (And.intro (show contB l x=contB l x from rfl) True.intro))
    have HT:=Lib.hid (And.intro hT hto)
    clear hT hto c1
    try clear c3
    try clear c4
    go_enter Tryz.func62,Tryz.ntmps62
    go_wp2_with (first
      | (go_at_call 72
         refine(opat_m l x _ (by omega) hx).mono ?_
         rintro e w2 ⟨he,rfl⟩
         rw[←HO.out] at he
         subst he)
      | (go_at_call 73
         refine(of_c _ _).mono ?_
         rintro e w2 ⟨rfl,rfl⟩)
      | (go_at_call 74
         refine(cont_m l x _ (by omega) (by omega)).mono ?_
         rintro e w2 ⟨he,rfl⟩
         rw[HC.out.1] at he
         subst he)
      | (go_at_call 75
         refine(blank_m l x _ (by omega) (by omega)).mono ?_
         rintro e w2 ⟨rfl,rfl⟩)
      | (go_at_call 76
         refine(line_m l x _ (by omega) (by omega)).mono ?_
         rintro e w2 ⟨rfl,rfl⟩)
      | (go_at_call 77
         refine(number_m l x _ (by omega) (by omega)).mono ?_
         rintro e w2 ⟨he,rfl⟩
         rw[if_pos HC.out.2] at he
         subst he))
    refine bodyPost_ret (v:=tkv T) (by rw[HT.out.1];simp[results,Tryz.results62,go_sem,tkv]) rfl ⟨rfl,by go_grown⟩)
end Go.Proofs.YtlbfdbinaekjoaaGreatDoor
