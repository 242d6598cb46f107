/- The program's parts of a text (parts.Of): they are those of canon, with what is done at the text's end. -/
import Derived.Test.YtmclohkaiemnaaaGreatDoorPa1
import Derived.Test.YtmclohkaiemnaaaGreatDoorCls
import Derived.BigQuiet
set_option linter.unusedVariables false
set_option linter.unusedSimpArgs false
set_option maxRecDepth 100000
set_option maxHeartbeats 8000000
namespace Go.Proofs.YtmclohkaiemnaaaGreatDoor
open Go.RowKit
variable {h:List Nat} {l' L:List fP} {T:List TypeId} {fc:List Value} {B b g n c B' i:Nat} {q:fP} {α:Type} {v1 v2 vf:Value} {w w':World} (l:List UInt8) (cs:List fP) (F:fK) (k:Nat)
structure SW (w:World) (B b:Nat) (v1 v2:Value) (l:List fP) (h:List Nat):Prop where
  le:B≤b
  hd:Bk w b 200 #[v1,v2]
  ol:w.ownsRow B 185 5 v1 l.length (gL l)
  oh:w.ownsRow B 3 1 v2 h.length (jp h)
theorem SW.kt {l:List fP} (s:SW w B b v1 v2 l h) (hk:KT T w w') (h1:200∉T) (h2:185∉T) (h3:3∉T):SW w' B b v1 v2 l h:=
  ⟨s.le,s.hd.kt hk h1,Ae s.ol hk h2,Ae s.oh hk h3⟩
theorem SW.below {l:List fP} (s:SW w B b v1 v2 l h) (hb:Below w.heap.size w w'):SW w' B b v1 v2 l h:=
  ⟨s.le,s.hd.below hb s.hd.lt,eC s.ol hb,eC s.oh hb⟩
theorem SW.setL {l:List fP} (s:SW w B b (.slice (some ⟨g,0,none⟩) n c) v2 l h) (j:Nat) (u:Value) (he:(gL l).set j u=gL l') (hl:l'.length=l.length) :
    SW (w.setCell ⟨g,j,none⟩ u) B b (.slice (some ⟨g,0,none⟩) n c) v2 l' h:=by
  obtain⟨s1,s2,s3,s4⟩:=s;have hn:=(iu s3).1;subst hn;have hgb:=eP s3 s2 (by decide);refine⟨s1,s2.far (by intro e;subst e;exact hgb rfl) u,?_,fh s4 (rk s3 s4 (by decide)) u⟩;rw[hl,←he];exact ox s3 j u
theorem SW.drew {l:List fP} (s:SW w B b v1 v2 l h):SW w.drew B b v1 v2 l h:=⟨s.le,s.hd,s.ol,s.oh⟩
theorem SW.gle {l:List fP} (s:SW w B b (.slice (some ⟨g,0,none⟩) n c) v2 l h):B≤g:=by
  have:=s.ol
  have hn:=ff this;subst hn
  exact(iu this).2.2.2.1
theorem NB {l:List fP} (s:SW w B b v1 v2 l h) (hf:w.ownsRow B' 175 2 vf n fc) (hB:B≤B'):SS w B b v1 v2 vf l h n fc:=
  ⟨s.le,s.hd,s.ol,s.oh,iW hf hB⟩
theorem F4:∀x∈kh l k,x<(eZ l k).length:=by
  intro x hx;obtain⟨p,hp,rfl⟩:=bZ.1 hx;exact AD ((mE l k).sub p hp)
theorem C5:(kh l k).length≤k:=by
  have h1:(kh l k).length=(FT l k).length:=by simp[kh,fu]
  have h2:(FT l k).length=(XT l k).length:=by simp[FT]
  have h3:=Hw l k;have h4:=mM l k;omega
theorem Fz (k:Int) (l:List fP):(mR F k l).length≤1:=by unfold mR;split;simp;split<;>simp
theorem oL (l:List UInt8):∀k,(eZ l k).length≤k
  | 0=>by simp[eZ]
  | k+1=>by
    have:=oL l k
    have:=Fz (FT l (k+1)) k (eZ l k)
    simp only[eZ,aD,bE];omega
theorem SW.dol {k:Nat} {l:List fP} (s:SW w B b (.slice (some ⟨g,0,none⟩) n c) v2 l h) (hq:l[k]? = some q) (t:Int) :
    SW ((w.setCell ⟨g,k*5+2,none⟩ (.int .i64 t)).setCell ⟨g,k*5+4,none⟩ (.bool false)) B b (.slice (some ⟨g,0,none⟩) n c) v2 (l.set k (Ka q t)) h:=by
  have hk:=(az.1 hq).1;have s1:=s.setL (k*5+2) (.int .i64 t) (jN l k q (setTo q t) 2 (.int .i64 t) hq (by omega) rfl) (by simp);have hq1:(l.set k (setTo q t))[k]? = some (setTo q t):=by rw[List.getElem?_set_self hk]
  have s2:=s1.setL (k*5+4) (.bool false) (jN (l.set k (setTo q t)) k (setTo q t) (Ka q t) 4 (.bool false) hq1 (by omega) rfl) (by simp)
  rwa [List.set_set] at s2
theorem Ek {l:List α} {x:α} (h:l[i]? = some x):l.set i x=l:=by
  apply List.ext_getElem?;intro j;by_cases e:i=j
  ·subst e;rw[List.getElem?_set_self (az.1 h).1,h]
  ·rw[List.getElem?_set_ne e]
def ll (l:List UInt8) (cs:List fP) (k:Nat):List fP:=(cs.take k).map (nR l)++cs.drop k
theorem Db:(ll l cs k).length=cs.length:=by simp[ll];omega
theorem Gi (q:fP) (h:cs[k]? = some q):(ll l cs k)[k]? = some q:=by
  have hk:=(az.1 h).1;unfold ll;rw[aP (by simp;omega),bv];simp only[bE,bz,cU (aM hk),dB,cQ];exact h
theorem ua (q:fP) (h:cs[k]? = some q):(ll l cs k).set k (nR l q)=ll l cs (k+1):=by
  obtain⟨hk,hq⟩:=az.1 h;unfold ll;rw[dt _ _ (by simp;omega)];simp only[bE,bz,cU (aM hk),dB];rw[cq hk,bS hk,bG,hq];simp
theorem Ow (w:World) (hl:l.length≤900) :
    Calls Tryz.prog 163 #[.string ⟨l.toArray⟩] w fun e w'=>∃v,e=.returned v∧w'.ownsRow w.heap.size 185 5 v (eQ l).length (gL (eQ l))∧Below w.heap.size w w':=by
  go_enter Tryz.func163,Tryz.ntmps163
  go_wp2_with (go_at_call 131;refine(Fw _).mono ?_
               rintro e w1 ⟨bm,rfl,hm1,hb1⟩)
  have s1:SW w1 w.heap.size w.heap.size (.slice none 0 0) (.slice none 0 0) [] []:=
    SW.below (w:=w.alloc (.cells #[.slice none 0 0,.slice none 0 0] 200)) ⟨au _,Bk.new _ _ _,de _ _ _ _,de _ _ _ _⟩ hb1
  have hbw:Below w.heap.size w w1:=((ay _ _).alloc (au _) _).trans (hb1.mono (by simp));have H1:=ac (ae hm1 (ae s1 hbw));clear hm1 hb1 s1 hbw;go_loopw [13] (fun i wr=>∃(k:Nat) (v1 v2:Value),k≤l.length∧i=.int .i64 k∧SW wr w.heap.size w.heap.size v1 v2 (eZ l k) (kh l k)∧eT wr (w.heap.size+1) bm (iA l k).1 (iA l k).2 k∧Below w.heap.size w wr) (fun i _=>l.length-(intOf i).toNat)
  case atStart=>exact⟨0,_,_,by omega,rfl,H1.out.2.1,by have:=H1.out.1;simpa [iA] using this,H1.out.2.2⟩
  case round=>
    obtain⟨k,v1,v2,hk,rfl,s2,hm2,hb2⟩:=hrel;have hbot:=ou l k;have hv:=uO l k;have hlen:=mM l k;have HR:=ac (ae hm2 (ae hb2 (ae hbot (ae hv s2))));clear hm2 hb2 hbot hv s2;by_cases hlt:k<l.length
    ·have hi0:(0:Int)≤(k:Int):=by omega
     have hi1:(k:Int)<(l.length:Int):=by omega
     have en:=xP l k hlt;have hbot2:=ou l (k+1);have HB2:=ac (ae en (ae hbot2 (mM l (k+1))));clear en hbot2
     go_wp2_with (first
       | (go_at_call 133;refine(AJ (w.heap.size+1) bm _ _ _ _ _ HR.out.1 HR.out.2.2.1 HR.out.2.2.2.1 (by omega) (by omega) (by omega)).mono ?_;rintro e w2 ⟨rfl,hm3,hb3⟩;rw[←HB2.out.1] at hm3;have s3:=HR.out.2.2.2.2.kt hb3.t (by decide) (by decide) (by decide);have H3:=ac (ae hm3 (ae hb3 s3));clear hm3 hb3 s3)
       | (go_at_call 160;refine(yM (w.heap.size+1) bm _ _ _ _ H3.out.1 HB2.out.2.1.ne (by have:=HB2.out.2.2;omega)).mono ?_;rintro e w3 ⟨g,c,rfl,hfr,hb4⟩;have s4:=H3.out.2.2.below hb4;have hm4:=H3.out.1.below hb4;obtain⟨N,hN⟩:∃N,(iA l (k+1)).1.length=N+1:=⟨_,Hw l (k+1)⟩;unfold Fr at hfr;rw[hN] at hfr ⊢;obtain⟨C,rfl⟩:∃C,c=C+1:=⟨c-1,by have:=iu hfr;omega⟩;have H4:=ac (ae s4 (ae hm4 (ae hfr (ae hb4 hN))));clear s4 hm4 hfr hb4 hN)
       | (go_at_call 194;refine(Ni w.heap.size w.heap.size g C N v1 v2 (eZ l k) (kh l k) (iA l (k+1)).1 k _ (NB H4.out.1 H4.out.2.2.1 (by have:=H3.out.2.1.b.size;have:=HR.out.2.1.size;omega)) H4.out.2.2.2.2 (by omega) (by have:=oL l k;omega) (by have:=HB2.out.2.2;have:=H4.out.2.2.2.2;omega) (by have:=C5 l k;omega) (F4 l k)).mono ?_;rintro e w5 ⟨rfl,⟨v1',v2',s5⟩,hb5⟩;have hm5:=H4.out.2.1.kt hb5.t (by decide) (by decide);have H5:=ac (ae s5 (ae hm5 hb5));clear s5 hm5 hb5))
     obtain⟨s5,hm5,hb5⟩:=H5.out;have ec:zP (oJ (iA l (k+1)).1.reverse.tail) (k:Int) (eZ l k) (kh l k)=(eZ l (k+1),kh l (k+1)):=by
       rw[I3];exact CE l k
     rw[ec] at s5;have q1:Below w.heap.size w w2:=HR.out.2.1.trans (H3.out.2.1.b.mono (by omega));have q2:Below w.heap.size w w3:=q1.trans (H4.out.2.2.2.1.mono q1.size);exact⟨⟨k+1,v1',v2',by omega,by go_num,⟨s5.le,s5.hd,s5.ol,s5.oh⟩,by simpa using hm5,q2.trans hb5.b⟩,by simp[intOf];omega⟩
    ·have e:k=l.length:=by omega
     subst e;obtain⟨hm2,hb2,_,_,s2⟩:=HR.out;obtain⟨wo,rfl⟩:∃wo:World,wo=wr:=⟨_,rfl⟩;obtain⟨A1,n1,c1,rfl⟩:=eA s2.ol;obtain rfl:=ff s2.ol;have y0:wo.cell? ⟨w.heap.size,0,none⟩=some (.slice A1 (eZ l l.length).length c1):=by rw[s2.hd.cell];rfl
     have hcl:=oL l l.length;have hfr:=fun q hq=>(mE l l.length).bnd q hq
     have HC:=ac hfr;have H2:=ac (ae s2 hb2);clear s2 hb2 hm2 hfr;generalize hcs:eZ l l.length=cs at *;have HCS:=ac hcs;clear hcs;go_wp2_with fail;go_loopw [32] (fun i wx=>∃(k:Nat) (v1:Value),k≤cs.length∧i=.int .i64 k∧SW wx w.heap.size w.heap.size v1 v2 (ll l cs k) (kh l l.length)∧Below w.heap.size w wx) (fun i _=>cs.length-(intOf i).toNat)
     case atStart=>exact⟨0,_,by omega,rfl,by simpa [ll] using H2.out.1,H2.out.2⟩
     case round=>
       obtain⟨i,v1',hi,rfl,s3,hb3⟩:=hrel;obtain⟨A3,n3,c3,rfl⟩:=eA s3.ol;obtain rfl:=ff s3.ol;have hfl:(ll l cs i).length=cs.length:=Db l cs i;rw[hfl] at s3;have hol:=s3.ol;rw[hfl] at hol;have y1:wr.cell? ⟨w.heap.size,0,none⟩=some (.slice A3 cs.length c3):=by rw[s3.hd.cell];rfl
       by_cases hlt2:i<cs.length
       ·obtain⟨q,hq⟩:∃q,cs[i]? = some q:=⟨_,ax hlt2⟩;obtain⟨g3,rfl⟩:=mP hol (by omega);have hqi:=Gi l cs i q hq;have y2:=eM hol _ _ (fN _ i q hqi 4 _ rfl);have y3:wr.cell? ⟨g3,i*5,none⟩=some (.int .i64 q.mode):=eM hol _ _ (fN _ i q hqi 0 _ rfl);have y4:=eM hol _ _ (fN _ i q hqi 1 _ rfl);have y5:=eM hol _ _ (fN _ i q hqi 2 _ rfl);have f5:=fZ hol (i*5+2);have k1:(i:Int)<(cs.length:Int):=by omega
        have k2:(0:Int)≤(i:Int):=by omega
        obtain⟨hf0,hf1⟩:=HC.out q.fr (bZ.2 ⟨q,aI hq,rfl⟩);have H3:=ac (ae s3 (ae hb3 (ae hq hqi)));clear s3 hb3 hq hqi hol y0;go_upto_if 44 with fail
        obtain⟨q2,hq2⟩:∃q2,q2=lk l.length q:=⟨_,rfl⟩;go_cut [] (fun wx=>SW wx w.heap.size w.heap.size (.slice (some ⟨g3,0,none⟩) cs.length c3) v2 ((ll l cs i).set i q2) (kh l l.length)∧Below w.heap.size wr wx)
        case first=>
          cases hop:q.op
          ·rw[hop] at y2;have HO:=ac (ae hop hq2);clear hop hq2;go_wp2_with fail;go_meet;obtain⟨hop,hq2⟩:=HO.out;refine⟨?_,ay _ _⟩;rw[hq2,show lk l.length q=q by unfold lk;rw[aC (by rw[hop];simp)],Ek H3.out.2.2.2];exact H3.out.1
          ·rw[hop] at y2;have HO:=ac (ae hop hq2);clear hop hq2;go_wp2_with fail;go_meet;obtain⟨hop,hq2⟩:=HO.out;refine⟨?_,(ay _ _).setCell H3.out.1.gle _⟩;rw[hq2,show lk l.length q=setTo q l.length by unfold lk;rw[aB hop];rfl];exact H3.out.1.setL _ _ (jN _ i q (setTo q l.length) 2 _ H3.out.2.2.2 (by omega) rfl) (by simp)
        case rest=>
          obtain⟨s4,hb4⟩:=hcut;have hL2:((ll l cs i).set i q2)[i]? = some q2:=by rw[List.getElem?_set_self (by rw[hfl];omega)]
          have hfl2:((ll l cs i).set i q2).length=cs.length:=by simp[hfl]
          have hol2:=s4.ol;rw[hfl2] at hol2;have hqm:q2.mode=q.mode:=by rw[hq2];unfold lk;split<;>rfl
          have hqf:q2.fr=q.fr:=by rw[hq2];exact yO _ _
          have y3':wc.cell? ⟨g3,i*5,none⟩=some (.int .i64 q.mode):=by rw[←hqm];exact eM hol2 _ _ (fN _ i q2 hL2 0 _ rfl)
          have y4':wc.cell? ⟨g3,i*5+1,none⟩=some (.int .i64 q.fr):=by rw[←hqf];exact eM hol2 _ _ (fN _ i q2 hL2 1 _ rfl)
          have y5':wc.cell? ⟨g3,i*5+2,none⟩=some (.int .i64 (Bm q2)):=eM hol2 _ _ (fN _ i q2 hL2 2 _ rfl);have y6':wc.cell? ⟨g3,i*5+4,none⟩=some (.bool q2.op):=eM hol2 _ _ (fN _ i q2 hL2 4 _ rfl);have f5':=fZ hol2 (i*5+2);have f6':=fZ hol2 (i*5+4);have H4:=ac (ae s4 (ae hb4 (ae hL2 (ae hqm (ae hqf hq2)))));clear s4 hb4 hL2 hfl2 hol2 hqm hqf hq2 y1 y2 y3 y4 y5 f5;by_cases hm12:q.mode=12
          ·have k3:(q.mode==12)=true:=by simpa using hm12
           have HM:=ac hm12;have k5:=BH l (q.fr+1).toNat;clear hm12;have k6:IntKind.i64.wrap (q.fr+1)=q.fr+1:=aO _ (by omega);have k7:IntKind.i64.wrap (q.fr+1+(rj l (q.fr+1).toNat:Int))=q.fr+1+(rj l (q.fr+1).toNat:Int):=aO _ (by omega);have c1:0≤q.fr+1:=by omega
           have c2:q.fr+1≤100000:=by omega
           have c3':l.length≤100000:=by omega
           go_upto_region 16 with fail
           go_wp2_with fail;go_region_with (go_at_call 195;with_reducible refine(Ji l (q.fr+1) _ c1 c2 c3').mono ?_;rintro e w' ⟨rfl,rfl⟩);all_goals go_wp2_with fail
           all_goals clear k6 k7
           all_goals (
             obtain⟨s4,hb4,hL2,hqm,hqf,hq2⟩:=H4.out;obtain⟨s3,hb3,hq,hqi⟩:=H3.out;have e:nR l q=Ka q2 (q.fr+1+(rj l (q.fr+1).toNat:Int)):=by
               unfold nR sC;rw[←hq2,aB (by rw[hqm];exact HM.out)];unfold Ka;rw[hqf]
             have hsw:=s4.drew.dol hL2 (q.fr+1+(rj l (q.fr+1).toNat:Int));rw[List.set_set,←e,ua l cs i q hq] at hsw;exact⟨⟨i+1,_,by omega,by go_num,hsw,(hb3.trans hb4).trans (((ay _ _).drew.setCell s4.gle _).setCell s4.gle _)⟩,by simp[intOf];omega⟩)
          ·have k3:(q.mode==12)=false:=by simpa using hm12
           have HM:=ac hm12;clear hm12;go_wp2_with fail;obtain⟨s4,hb4,hL2,hqm,hqf,hq2⟩:=H4.out;obtain⟨s3,hb3,hq,hqi⟩:=H3.out;refine⟨⟨i+1,.slice (some ⟨g3,0,none⟩) cs.length c3,by omega,by go_num,?_,hb3.trans hb4⟩,by simp[intOf];omega⟩;rw[←ua l cs i q hq];have e:nR l q=q2:=by unfold nR sC;rw[←hq2,aC (by rw[hqm];exact HM.out)]
           rw[e];exact s4
       ·have e2:i=cs.length:=by omega
        have H3:=ac (ae s3 hb3);clear s3 hb3 hol y0;go_wp2_with fail;go_ret;obtain⟨s3,hb3⟩:=H3.out;have e3:ll l cs i=eQ l:=by unfold ll eQ;rw[HCS.out,e2,bR (au _),List.drop_length,bB]
        have ho:=s3.ol;rw[e3] at ho;exact⟨_,rfl,ho,hb3⟩
instance:DecidableEq fP:=fun⟨a,b,c,d,e⟩ ⟨a2,b2,c2,d2,e2⟩=>decidable_of_iff (a=a2∧b=b2∧c=c2∧d=d2∧e=e2) (by simp)
theorem uS (h:w.ownsRow B 185 5 (.slice (some ⟨g,0,none⟩) n c) n (gL L)) (hi:L[i]? = some q) :
    w.cell? ⟨g,i*5,none⟩=some (.int .i64 q.mode)∧w.cell? ⟨g,i*5+1,none⟩=some (.int .i64 q.fr)∧w.cell? ⟨g,i*5+2,none⟩=some (.int .i64 (Bm q))∧w.cell? ⟨g,i*5+3,none⟩=some (.int .i64 q.up)∧w.cell? ⟨g,i*5+4,none⟩=some (.bool q.op):=
  ⟨eM h _ _ (fN _ i q hi 0 _ rfl),eM h _ _ (fN _ i q hi 1 _ rfl),eM h _ _ (fN _ i q hi 2 _ rfl),eM h _ _ (fN _ i q hi 3 _ rfl),eM h _ _ (fN _ i q hi 4 _ rfl)⟩
theorem uU:(eQ l).length≤l.length:=by unfold eQ;rw[bE];exact oL l l.length
end Go.Proofs.YtmclohkaiemnaaaGreatDoor
