/- The program's parts of a text (parts.Of): they are those of canon, with what is done at the text's end. -/
import Derived.Test.YtcagfamdoaoimaaGreatDoorPa1
import Derived.Test.YtcagfamdoaoimaaGreatDoorCls
import Derived.BigQuiet
set_option linter.unusedVariables false
set_option linter.unusedSimpArgs false
set_option maxRecDepth 100000
set_option maxHeartbeats 8000000
namespace Go.Proofs.YtcagfamdoaoimaaGreatDoor
open Go.RowKit
variable {h:List Nat} {l' L:List fh} {T:List TypeId} {fc:List Value} {B b g n c B' i:Nat} {q:fh} {α:Type} {v1 v2 vf:Value} {w w':World} (l:List UInt8) (cs:List fh) (F:fg) (k:Nat)
structure SW (w:World) (B b:Nat) (v1 v2:Value) (l:List fh) (h:List Nat):Prop where
  le:B≤b
  hd:Bk w b 146 #[v1,v2]
  ol:w.ownsRow B 79 5 v1 l.length (fw l)
  oh:w.ownsRow B 3 1 v2 h.length (ja h)
theorem SW.kt {l:List fh} (s:SW w B b v1 v2 l h) (hk:KT T w w') (h1:146∉T) (h2:79∉T) (h3:3∉T):SW w' B b v1 v2 l h:=
  ⟨s.le,s.hd.kt hk h1,AL s.ol hk h2,AL s.oh hk h3⟩
theorem SW.below {l:List fh} (s:SW w B b v1 v2 l h) (hb:Below w.heap.size w w'):SW w' B b v1 v2 l h:=
  ⟨s.le,s.hd.below hb s.hd.lt,dQ s.ol hb,dQ s.oh hb⟩
theorem SW.setL {l:List fh} (s:SW w B b (.slice (some ⟨g,0,none⟩) n c) v2 l h) (j:Nat) (u:Value) (he:(fw l).set j u=fw l') (hl:l'.length=l.length) :
    SW (w.setCell ⟨g,j,none⟩ u) B b (.slice (some ⟨g,0,none⟩) n c) v2 l' h:=by
  obtain⟨s1,s2,s3,s4⟩:=s;have hn:=(gY s3).1;subst hn;have hgb:=eK s3 s2 (by decide);refine⟨s1,s2.far (by intro e;subst e;exact hgb rfl) u,?_,eU s4 (rG s3 s4 (by decide)) u⟩;rw[hl,←he];exact oG s3 j u
theorem SW.drew {l:List fh} (s:SW w B b v1 v2 l h):SW w.drew B b v1 v2 l h:=⟨s.le,s.hd,s.ol,s.oh⟩
theorem SW.gle {l:List fh} (s:SW w B b (.slice (some ⟨g,0,none⟩) n c) v2 l h):B≤g:=by
  have:=s.ol
  have hn:=eF this;subst hn
  exact(gY this).2.2.2.1
theorem MV {l:List fh} (s:SW w B b v1 v2 l h) (hf:w.ownsRow B' 170 2 vf n fc) (hB:B≤B'):SS w B b v1 v2 vf l h n fc:=
  ⟨s.le,s.hd,s.ol,s.oh,fF hf hB⟩
theorem Gs:∀x∈kC l k,x<(eM l k).length:=by
  intro x hx;obtain⟨p,hp,rfl⟩:=cH.1 hx;exact Bh ((mM l k).sub p hp)
theorem Du:(kC l k).length≤k:=by
  have h1:(kC l k).length=(FT l k).length:=by simp[kC,eV]
  have h2:(FT l k).length=(XT l k).length:=by simp[FT]
  have h3:=Ie l k;have h4:=jj l k;omega
theorem F2 (k:Int) (l:List fh):(mZ F k l).length≤1:=by unfold mZ;split;simp;split<;>simp
theorem oT (l:List UInt8):∀k,(eM l k).length≤k
  | 0=>by simp[eM]
  | k+1=>by
    have:=oT l k
    have:=F2 (FT l (k+1)) k (eM l k)
    simp only[eM,aH,cC];omega
theorem SW.dol {k:Nat} {l:List fh} (s:SW w B b (.slice (some ⟨g,0,none⟩) n c) v2 l h) (hq:l[k]? = some q) (t:Int) :
    SW ((w.setCell ⟨g,k*5+2,none⟩ (.int .i64 t)).setCell ⟨g,k*5+4,none⟩ (.bool false)) B b (.slice (some ⟨g,0,none⟩) n c) v2 (l.set k (JX q t)) h:=by
  have hk:=(aC.1 hq).1;have s1:=s.setL (k*5+2) (.int .i64 t) (jE l k q (setTo q t) 2 (.int .i64 t) hq (by omega) rfl) (by simp);have hq1:(l.set k (setTo q t))[k]? = some (setTo q t):=by rw[List.getElem?_set_self hk]
  have s2:=s1.setL (k*5+4) (.bool false) (jE (l.set k (setTo q t)) k (setTo q t) (JX q t) 4 (.bool false) hq1 (by omega) rfl) (by simp)
  rwa [List.set_set] at s2
theorem EC {l:List α} {x:α} (h:l[i]? = some x):l.set i x=l:=by
  apply List.ext_getElem?;intro j;by_cases e:i=j
  ·subst e;rw[List.getElem?_set_self (aC.1 h).1,h]
  ·rw[List.getElem?_set_ne e]
def lw (l:List UInt8) (cs:List fh) (k:Nat):List fh:=(cs.take k).map (nY l)++cs.drop k
theorem DD:(lw l cs k).length=cs.length:=by simp[lw];omega
theorem GC (q:fh) (h:cs[k]? = some q):(lw l cs k)[k]? = some q:=by
  have hk:=(aC.1 h).1;unfold lw;rw[aT (by simp;omega),bZ];simp only[cC,cg,cW (bj hk),dc,Nat.add_zero];exact h
theorem uv (q:fh) (h:cs[k]? = some q):(lw l cs k).set k (nY l q)=lw l cs (k+1):=by
  obtain⟨hk,hq⟩:=aC.1 h;unfold lw;rw[dH _ _ (by simp;omega)];simp only[cC,cg,cW (bj hk),dc];rw[cU hk,bH hk,cD,hq];simp
theorem Lr (w:World) (hl:l.length≤900) :
    Calls Tryz.prog 115 #[.string ⟨l.toArray⟩] w fun e w'=>∃v,e=.returned v∧w'.ownsRow w.heap.size 79 5 v (dS l).length (fw (dS l))∧Below w.heap.size w w':=by
  go_enter Tryz.func115,Tryz.ntmps115
  go_wp2_with (go_at_call 144;refine(FZ _).mono ?_
               rintro e w1 ⟨bm,rfl,hm1,hb1⟩)
  have s1:SW w1 w.heap.size w.heap.size (.slice none 0 0) (.slice none 0 0) [] []:=
    SW.below (w:=w.alloc (.cells #[.slice none 0 0,.slice none 0 0] 146)) ⟨an _,Bk.new _ _ _,bV _ _ _ _,bV _ _ _ _⟩ hb1
  have hbw:Below w.heap.size w w1:=((aD _ _).alloc (an _) _).trans (hb1.mono (by simp));have H1:=aa (ac hm1 (ac s1 hbw));clear hm1 hb1 s1 hbw;go_loopw [13] (fun i wr=>∃(k:Nat) (v1 v2:Value),k≤l.length∧i=.int .i64 k∧SW wr w.heap.size w.heap.size v1 v2 (eM l k) (kC l k)∧eI wr (w.heap.size+1) bm (fY l k).1 (fY l k).2 k∧Below w.heap.size w wr) (fun i _=>l.length-(intOf i).toNat)
  case atStart=>exact⟨0,_,_,by omega,rfl,H1.out.2.1,by have:=H1.out.1;simpa [fY] using this,H1.out.2.2⟩
  case round=>
    obtain⟨k,v1,v2,hk,rfl,s2,hm2,hb2⟩:=hrel;have hbot:=kK l k;have hv:=sf l k;have hlen:=jj l k;have HR:=aa (ac hm2 (ac hb2 (ac hbot (ac hv s2))));clear hm2 hb2 hbot hv s2;by_cases hlt:k<l.length
    ·have hi0:(0:Int)≤(k:Int):=by omega
     have hi1:(k:Int)<(l.length:Int):=by omega
     have en:=yd l k hlt;have hbot2:=kK l (k+1);have HB2:=aa (ac en (ac hbot2 (jj l (k+1))));clear en hbot2
     go_wp2_with (first
       | (go_at_call 145;refine(Bm (w.heap.size+1) bm _ _ _ _ _ HR.out.1 HR.out.2.2.1 HR.out.2.2.2.1 (by omega) (by omega) (by omega)).mono ?_;rintro e w2 ⟨rfl,hm3,hb3⟩;rw[←HB2.out.1] at hm3;have s3:=HR.out.2.2.2.2.kt hb3.t (by decide) (by decide) (by decide);have H3:=aa (ac hm3 (ac hb3 s3));clear hm3 hb3 s3)
       | (go_at_call 147;refine(za (w.heap.size+1) bm _ _ _ _ H3.out.1 HB2.out.2.1.ne (by have:=HB2.out.2.2;omega)).mono ?_;rintro e w3 ⟨g,c,rfl,hfr,hb4⟩;have s4:=H3.out.2.2.below hb4;have hm4:=H3.out.1.below hb4;obtain⟨N,hN⟩:∃N,(fY l (k+1)).1.length=N+1:=⟨_,Ie l (k+1)⟩;unfold Fr at hfr;rw[hN] at hfr ⊢;obtain⟨C,rfl⟩:∃C,c=C+1:=⟨c-1,by have:=gY hfr;omega⟩;have H4:=aa (ac s4 (ac hm4 (ac hfr (ac hb4 hN))));clear s4 hm4 hfr hb4 hN)
       | (go_at_call 146;refine(Mv w.heap.size w.heap.size g C N v1 v2 (eM l k) (kC l k) (fY l (k+1)).1 k _ (MV H4.out.1 H4.out.2.2.1 (by have:=H3.out.2.1.b.size;have:=HR.out.2.1.size;omega)) H4.out.2.2.2.2 (by omega) (by have:=oT l k;omega) (by have:=HB2.out.2.2;have:=H4.out.2.2.2.2;omega) (by have:=Du l k;omega) (Gs l k)).mono ?_;rintro e w5 ⟨rfl,⟨v1',v2',s5⟩,hb5⟩;have hm5:=H4.out.2.1.kt hb5.t (by decide) (by decide);have H5:=aa (ac s5 (ac hm5 hb5));clear s5 hm5 hb5))
     obtain⟨s5,hm5,hb5⟩:=H5.out;have ec:Ak (oQ (fY l (k+1)).1.reverse.tail) (k:Int) (eM l k) (kC l k)=(eM l (k+1),kC l (k+1)):=by
       rw[sI];exact CY l k
     rw[ec] at s5;have q1:Below w.heap.size w w2:=HR.out.2.1.trans (H3.out.2.1.b.mono (by omega));have q2:Below w.heap.size w w3:=q1.trans (H4.out.2.2.2.1.mono q1.size);exact⟨⟨k+1,v1',v2',by omega,by go_num,⟨s5.le,s5.hd,s5.ol,s5.oh⟩,by simpa using hm5,q2.trans hb5.b⟩,by simp[intOf];omega⟩
    ·have e:k=l.length:=by omega
     subst e;obtain⟨hm2,hb2,_,_,s2⟩:=HR.out;obtain⟨wo,rfl⟩:∃wo:World,wo=wr:=⟨_,rfl⟩;obtain⟨A1,n1,c1,rfl⟩:=dR s2.ol;obtain rfl:=eF s2.ol;have y0:wo.cell? ⟨w.heap.size,0,none⟩=some (.slice A1 (eM l l.length).length c1):=by rw[s2.hd.cell];rfl
     have hcl:=oT l l.length;have hfr:=fun q hq=>(mM l l.length).bnd q hq
     have HC:=aa hfr;have H2:=aa (ac s2 hb2);clear s2 hb2 hm2 hfr;generalize hcs:eM l l.length=cs at *;have HCS:=aa hcs;clear hcs;go_wp2_with fail;go_loopw [32] (fun i wx=>∃(k:Nat) (v1:Value),k≤cs.length∧i=.int .i64 k∧SW wx w.heap.size w.heap.size v1 v2 (lw l cs k) (kC l l.length)∧Below w.heap.size w wx) (fun i _=>cs.length-(intOf i).toNat)
     case atStart=>exact⟨0,_,by omega,rfl,by simpa [lw] using H2.out.1,H2.out.2⟩
     case round=>
       obtain⟨i,v1',hi,rfl,s3,hb3⟩:=hrel;obtain⟨A3,n3,c3,rfl⟩:=dR s3.ol;obtain rfl:=eF s3.ol;have hfl:(lw l cs i).length=cs.length:=DD l cs i;rw[hfl] at s3;have hol:=s3.ol;rw[hfl] at hol;have y1:wr.cell? ⟨w.heap.size,0,none⟩=some (.slice A3 cs.length c3):=by rw[s3.hd.cell];rfl
       by_cases hlt2:i<cs.length
       ·obtain⟨q,hq⟩:∃q,cs[i]? = some q:=⟨_,ax hlt2⟩;obtain⟨g3,rfl⟩:=mY hol (by omega);have hqi:=GC l cs i q hq;have y2:=eA hol _ _ (eW _ i q hqi 4 _ rfl);have y3:wr.cell? ⟨g3,i*5,none⟩=some (.int .i64 q.mode):=eA hol _ _ (eW _ i q hqi 0 _ rfl);have y4:=eA hol _ _ (eW _ i q hqi 1 _ rfl);have y5:=eA hol _ _ (eW _ i q hqi 2 _ rfl);have f5:=gS hol (i*5+2);have k1:(i:Int)<(cs.length:Int):=by omega
        have k2:(0:Int)≤(i:Int):=by omega
        obtain⟨hf0,hf1⟩:=HC.out q.fr (cH.2 ⟨q,aW hq,rfl⟩);have H3:=aa (ac s3 (ac hb3 (ac hq hqi)));clear s3 hb3 hq hqi hol y0;go_upto_if 44 with fail
        obtain⟨q2,hq2⟩:∃q2,q2=lu l.length q:=⟨_,rfl⟩;go_cut [] (fun wx=>SW wx w.heap.size w.heap.size (.slice (some ⟨g3,0,none⟩) cs.length c3) v2 ((lw l cs i).set i q2) (kC l l.length)∧Below w.heap.size wr wx)
        case first=>
          cases hop:q.op
          ·rw[hop] at y2;have HO:=aa (ac hop hq2);clear hop hq2;go_wp2_with fail;go_meet;obtain⟨hop,hq2⟩:=HO.out;refine⟨?_,aD _ _⟩;rw[hq2,show lu l.length q=q by unfold lu;rw[aB (by rw[hop];simp)],EC H3.out.2.2.2];exact H3.out.1
          ·rw[hop] at y2;have HO:=aa (ac hop hq2);clear hop hq2;go_wp2_with fail;go_meet;obtain⟨hop,hq2⟩:=HO.out;refine⟨?_,(aD _ _).setCell H3.out.1.gle _⟩;rw[hq2,show lu l.length q=setTo q l.length by unfold lu;rw[aE hop];rfl];exact H3.out.1.setL _ _ (jE _ i q (setTo q l.length) 2 _ H3.out.2.2.2 (by omega) rfl) (by simp)
        case rest=>
          obtain⟨s4,hb4⟩:=hcut;have hL2:((lw l cs i).set i q2)[i]? = some q2:=by rw[List.getElem?_set_self (by rw[hfl];omega)]
          have hfl2:((lw l cs i).set i q2).length=cs.length:=by simp[hfl]
          have hol2:=s4.ol;rw[hfl2] at hol2;have hqm:q2.mode=q.mode:=by rw[hq2];unfold lu;split<;>rfl
          have hqf:q2.fr=q.fr:=by rw[hq2];exact zc _ _
          have y3':wc.cell? ⟨g3,i*5,none⟩=some (.int .i64 q.mode):=by rw[←hqm];exact eA hol2 _ _ (eW _ i q2 hL2 0 _ rfl)
          have y4':wc.cell? ⟨g3,i*5+1,none⟩=some (.int .i64 q.fr):=by rw[←hqf];exact eA hol2 _ _ (eW _ i q2 hL2 1 _ rfl)
          have y5':wc.cell? ⟨g3,i*5+2,none⟩=some (.int .i64 (oX q2)):=eA hol2 _ _ (eW _ i q2 hL2 2 _ rfl);have y6':wc.cell? ⟨g3,i*5+4,none⟩=some (.bool q2.op):=eA hol2 _ _ (eW _ i q2 hL2 4 _ rfl);have f5':=gS hol2 (i*5+2);have f6':=gS hol2 (i*5+4);have H4:=aa (ac s4 (ac hb4 (ac hL2 (ac hqm (ac hqf hq2)))));clear s4 hb4 hL2 hfl2 hol2 hqm hqf hq2 y1 y2 y3 y4 y5 f5;by_cases hm12:q.mode=12
          ·have k3:(q.mode==12)=true:=by simpa using hm12
           have HM:=aa hm12;have k5:=wB l (q.fr+1).toNat;clear hm12;have k6:IntKind.i64.wrap (q.fr+1)=q.fr+1:=aV _ (by omega);have k7:IntKind.i64.wrap (q.fr+1+(pG l (q.fr+1).toNat:Int))=q.fr+1+(pG l (q.fr+1).toNat:Int):=aV _ (by omega);have c1:0≤q.fr+1:=by omega
           have c2:q.fr+1≤100000:=by omega
           have c3':l.length≤100000:=by omega
           go_upto_region 16 with fail
           go_wp2_with fail;go_region_with (go_at_call 148;with_reducible refine(Jf l (q.fr+1) _ c1 c2 c3').mono ?_;rintro e w' ⟨rfl,rfl⟩);all_goals go_wp2_with fail
           all_goals clear k6 k7
           all_goals (
             obtain⟨s4,hb4,hL2,hqm,hqf,hq2⟩:=H4.out;obtain⟨s3,hb3,hq,hqi⟩:=H3.out;have e:nY l q=JX q2 (q.fr+1+(pG l (q.fr+1).toNat:Int)):=by
               unfold nY nZ;rw[←hq2,aE (by rw[hqm];exact HM.out)];unfold JX;rw[hqf]
             have hsw:=s4.drew.dol hL2 (q.fr+1+(pG l (q.fr+1).toNat:Int));rw[List.set_set,←e,uv l cs i q hq] at hsw;exact⟨⟨i+1,_,by omega,by go_num,hsw,(hb3.trans hb4).trans (((aD _ _).drew.setCell s4.gle _).setCell s4.gle _)⟩,by simp[intOf];omega⟩)
          ·have k3:(q.mode==12)=false:=by simpa using hm12
           have HM:=aa hm12;clear hm12;go_wp2_with fail;obtain⟨s4,hb4,hL2,hqm,hqf,hq2⟩:=H4.out;obtain⟨s3,hb3,hq,hqi⟩:=H3.out;refine⟨⟨i+1,.slice (some ⟨g3,0,none⟩) cs.length c3,by omega,by go_num,?_,hb3.trans hb4⟩,by simp[intOf];omega⟩;rw[←uv l cs i q hq];have e:nY l q=q2:=by unfold nY nZ;rw[←hq2,aB (by rw[hqm];exact HM.out)]
           rw[e];exact s4
       ·have e2:i=cs.length:=by omega
        have H3:=aa (ac s3 hb3);clear s3 hb3 hol y0;go_wp2_with fail;go_ret;obtain⟨s3,hb3⟩:=H3.out;have e3:lw l cs i=dS l:=by unfold lw dS;rw[HCS.out,e2,bP (an _),List.drop_length,bM]
        have ho:=s3.ol;rw[e3] at ho;exact⟨_,rfl,ho,hb3⟩
instance:DecidableEq fh:=fun⟨a,b,c,d,e⟩ ⟨a2,b2,c2,d2,e2⟩=>decidable_of_iff (a=a2∧b=b2∧c=c2∧d=d2∧e=e2) (by simp)
theorem rE (h:w.ownsRow B 79 5 (.slice (some ⟨g,0,none⟩) n c) n (fw L)) (hi:L[i]? = some q) :
    w.cell? ⟨g,i*5,none⟩=some (.int .i64 q.mode)∧w.cell? ⟨g,i*5+1,none⟩=some (.int .i64 q.fr)∧w.cell? ⟨g,i*5+2,none⟩=some (.int .i64 (oX q))∧w.cell? ⟨g,i*5+3,none⟩=some (.int .i64 q.up)∧w.cell? ⟨g,i*5+4,none⟩=some (.bool q.op):=
  ⟨eA h _ _ (eW _ i q hi 0 _ rfl),eA h _ _ (eW _ i q hi 1 _ rfl),eA h _ _ (eW _ i q hi 2 _ rfl),eA h _ _ (eW _ i q hi 3 _ rfl),eA h _ _ (eW _ i q hi 4 _ rfl)⟩
theorem oF:(dS l).length≤l.length:=by unfold dS;rw[cC];exact oT l l.length
end Go.Proofs.YtcagfamdoaoimaaGreatDoor
