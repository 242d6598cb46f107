/- quillwortref09.Shut: is nothing to be shut behind a word? -/
import Derived.Test.YtcagfamdoaoimaaGreatDoorRefM3
import Derived.Test.YtcagfamdoaoimaaGreatDoorLa9
import Derived.Test.YtcagfamdoaoimaaGreatDoorRefP1
import Derived.Test.YtcagfamdoaoimaaGreatDoorClose2
set_option linter.unusedVariables false
set_option linter.unusedSimpArgs false
set_option maxRecDepth 100000
set_option maxHeartbeats 8000000
namespace Go.Proofs.YtcagfamdoaoimaaGreatDoor
open Go.RowKit
theorem Io (c:UInt8) (hv:uM c=true) (h84:c≠84) (hc:mA c=[]):c=76:=by
  have:=fg (fun c => !uM c||c==84 || !(mA c==[])||c==76) (by decide +kernel) c
  rw[hv,hc] at this;simpa [h84] using this
theorem Js (c:UInt8) (hv:zQ c=true) (h84:c≠84):mA c≠[]:=by
  have:=fg (fun c => !zQ c||c==84 || !(mA c==[])) (by decide +kernel) c
  rw[hv] at this;simpa [h84] using this
theorem EA (st:eU) (hb:l9 st) (hv:og st):decide (Mc st=[])=((rS st==[84])||(rS st==[84,76])):=by
  match st,hb,hv with
  | [(c,p)],hb,hv=>
    obtain rfl:c=84:=hb;rfl
  | (c,p)::(d,q)::r,hb,hv=>
    obtain⟨hc,hb2⟩:c≠84∧l9 ((d,q)::r):=hb;rw[bB];simp only[bW,dm,aR];constructor
    ·intro h;rw[zL] at h;obtain⟨h1,h2⟩:=List.append_eq_nil_iff.1 h;obtain rfl:=Io c hv.1 hc h1
     right
     cases r with
     | nil=>
       obtain rfl:d=84:=hb2;rfl
     | cons y r=>
       exfalso;rw[zL] at h2;obtain⟨h3,h4⟩:=List.append_eq_nil_iff.1 h2;exact Js d (hv.2 (d,q) (by simp)) hb2.1 h3
    ·rintro (h|h)
     ·have:=congrArg List.length h
      rw[kw] at this;simp at this
     ·have hl:=congrArg List.length h;rw[kw] at hl
      have:r=[]:=bP (by simpa using hl)
      subst this;have h2:rS [(c,p),(d,q)]=[d,c]:=rfl;rw[h2] at h;injection h with h3 h4
      injection h4 with h4 h5
      subst h3;subst h4;rfl
theorem Ey (l:List UInt8) (w:World) (hl:l.length≤900) :
    jL 109 #[.string ⟨l.toArray⟩] w (.bool (lK l)):=by
  have hres:lK l=((rS (fY l l.length).1==[84])||(rS (fY l l.length).1==[84,76])):=EA _ (kU l _) (sa l _);generalize lK l=R at hres ⊢;have HR:=aa hres;clear hres;go_enter Tryz.func109,Tryz.ntmps109;go_wp2_with fail;go_at_call 142;refine(MI l _ hl).mono ?_;rintro e w1 ⟨S,A,n,k,rfl,hx,hb⟩;have hS:S=rS (fY l l.length).1:=hx.1;rw[←hS] at HR;have HX:=aa (ac hx hb);clear hx hb hS
  cases h1:(S==[84])
  ·cases h2:(S==[84,76])
   ·have hr:R=false:=by rw[HR.out,h1,h2];rfl
    subst hr;go_wp2;go_ret;exact⟨rfl,HX.out.2.alloc HX.out.2.size _⟩
   ·have hr:R=true:=by rw[HR.out,h1,h2];rfl
    subst hr;go_wp2;go_ret;exact⟨rfl,HX.out.2.alloc HX.out.2.size _⟩
  ·have hr:R=true:=by rw[HR.out,h1];rfl
   subst hr;go_wp2;go_ret;exact⟨rfl,HX.out.2.alloc HX.out.2.size _⟩
theorem L3 (st:eU) (c:UInt8) (hb:gR c=true) (h:l9 st):nu st c=(decide (rS st=[84])||(decide (rS st=[84,76])&&decide (c.toNat≠40))):=by
  unfold nu;rw[hb,cK]
  match st,h with
  | [(d,p)],h=>
    have:d=84:=h
    subst this;simp[rS]
  | [(d,p),(e,q)],h=>
    have:e=84:=h.2
    subst this;have e2:decide (d.toNat=76)=decide (d=76):=by
      have:=fg (fun d=>decide (d.toNat=76)==decide (d=76)) (by decide +kernel) d
      simpa using this
    simp[rS,e2]
  | x::y::z::r,_=>
    have hl:(rS (x::y::z::r)).length=r.length+3:=by simp[rS]
    have h1:rS (x::y::z::r)≠[84]:=fun e=>by rw[e] at hl;simp at hl
    have h2:rS (x::y::z::r)≠[84,76]:=fun e=>by rw[e] at hl;simp at hl
    simp[h1,h2]
theorem oO (l:List UInt8) (a k m:Nat) (hm:a+k=m) (hlt:m<l.length) (hb:gR ((ByteArray.mk l.toArray)[m]'hlt)=true) (h:l9 (iC l a k).1) :
    gJ l a k=(decide (rS (iC l a k).1=[84])||(decide (rS (iC l a k).1=[84,76])&&decide (((ByteArray.mk l.toArray)[m]'hlt).toNat≠40))):=by
  subst hm;unfold gJ;rw[←L2 (B5 l a k).1];have e:l.getD (a+k) 0=(ByteArray.mk l.toArray)[a+k]'hlt:=by
    rw[lz,aE,ax hlt];rfl
  rw[e];exact L3 _ _ hb h
def Ig (w wr:World) (bx:Nat) (l:List UInt8) (a k:Nat):Prop:=
  ∃S A n c,Bk wr bx 115 #[.string ⟨S.toArray⟩,.slice A n c,.bool (iC l a k).2]∧Rs wr S A n c (iC l a k).1∧Below w.heap.size w wr
theorem nX {w wr w2:World} {bx:Nat} {l:List UInt8} {a k m:Nat} {cs:Value×Value×Value} {S2:List UInt8} {A2:Option Addr} {n2 c2:Nat} (hm:a+k=m) (hlt:m<l.length) (kk:Bk w2 bx 115 #[cs.1,cs.2.1,cs.2.2])
    (hx:Rs w2 S2 A2 n2 c2 (eG (iC l a k).1 (iC l a k).2 ((ByteArray.mk l.toArray)[m]'hlt) m).1) (hbel:Below w.heap.size w wr) (hb2:Below wr.heap.size wr w2) (hne:w.heap.size≤bx) :
    Ig w (((w2.setCell ⟨bx,0,none⟩ (.string ⟨S2.toArray⟩)).setCell ⟨bx,1,none⟩ (.slice A2 n2 c2)).setCell ⟨bx,2,none⟩ (.bool (eG (iC l a k).1 (iC l a k).2 ((ByteArray.mk l.toArray)[m]'hlt) m).2)) bx l a (k+1):=by
  subst hm;have e:iC l a (k+1)=eG (iC l a k).1 (iC l a k).2 ((ByteArray.mk l.toArray)[a+k]'hlt) ((a+k:Nat):Int):=by
    show eG _ _ (l.getD (a+k) 0) _=_;rw[lz,aE,ax hlt];rfl
  obtain⟨hF,hgF⟩:=MF kk (v0:=.string ⟨S2.toArray⟩) (v1:=.slice A2 n2 c2) (v2:=.bool (eG (iC l a k).1 (iC l a k).2 ((ByteArray.mk l.toArray)[a+k]'hlt) ((a+k:Nat):Int)).2);rw[←e] at hx hF hgF ⊢;have hb:=hbel.trans (hb2.mono hbel.size);exact⟨S2,A2,n2,c2,hF,⟨hx.1,hx.2.1,hx.2.2.keep hgF (kk.row (by decide))⟩,hb.grown hgF hb.size (by intro j hj;injection hj with hj;omega)⟩
theorem EP (l:List UInt8) (a:Nat) (w:World) (hl:l.length≤900) (ha:a≤l.length) :
    jL 107 #[.string ⟨l.toArray⟩,.int .i64 (a:Int)] w (.int .i64 ((a+js l a:Nat):Int)):=by
  go_enter Tryz.func107,Tryz.ntmps107
  go_wp2_with (first
    | (go_at_call 91;refine(xd _).mono ?_;rintro e w1 ⟨S1,A1,n1,k1,rfl,hx1,hb1⟩;have H1:=aa (ac hx1 hb1);clear hx1 hb1))
  generalize hbx:w1.heap.size=bx at *;have HBX:=aa hbx;clear hbx;go_loopw [6] (fun i wr=>∃k:Nat,a+k≤l.length∧i=.int .i64 ((a+k:Nat):Int)∧Ig w wr bx l a k∧nt (gJ l a) (l.length-a-k) k=js l a) (fun i _=>l.length-(intOf i).toNat)
  case atStart=>
    obtain⟨hx1,hb1⟩:=H1.out;have e:=HBX.out;subst e;exact⟨0,by omega,rfl,⟨S1,A1,n1,k1,Bk.new _ _ _,hx1.next (by go_grown),hb1.alloc hb1.size _⟩,rfl⟩
  case round=>
    obtain⟨k,hk,rfl,⟨S,A,n,c,hbk,hrs,hbel⟩,he⟩:=hrel;have hbot:=vu l a k;have hlen:=vt l a k;obtain⟨y0,y1,y2,z0,z1,z2⟩:=hbk.three;have HR:=aa (ac hrs (ac hbel (ac hbk (ac hbot (ac he hlen)))));clear hrs hbel hbk hbot he hlen;generalize hm:a+k=m at *;have HM:=aa hm;clear hm;by_cases hlt:m<l.length
    ·have hi0:(0:Int)≤(m:Int):=by omega
     have hi1:(m:Int)<(l.length:Int):=by omega
     cases hs:gR ((ByteArray.mk l.toArray)[m]'hlt)
     ·have HS:=aa hs;clear hs
      go_wp2_with (first
        | (go_at_call 140;refine(kQ _ _).mono ?_;rintro e w2 ⟨rfl,rfl⟩;rw[HS.out]))
      have hbxw:w.heap.size≤bx:=by have:=H1.out.2.size;have:=HBX.out;omega
      go_region_with (first
        | (go_at_call 92;refine(tw _ A n c _ _ _ _ _ (HR.out.1.next (by go_grown)) HR.out.2.2.2.1 (by have:=HR.out.2.2.2.2.2;have:=HM.out;omega)).mono ?_;rintro e w2 ⟨S2,A2,n2,c2,rfl,hx2,hb2⟩;have hb2':Below wr.heap.size wr w2:=jK (by go_grown) hb2;have kk:=HR.out.2.2.1.below hb2' HR.out.2.2.1.lt;obtain⟨v0,v1,v2,g0,g1,g2⟩:=kk.three;have H2:=aa (ac hx2 hb2');clear hx2 hb2 hb2'))
      all_goals go_wp2
      all_goals (
        have hm:=HM.out;have hstop:gJ l a k=false:=by
          unfold gJ nu;rw[hm,aE,ax hlt]
          have:=HS.out
          rw[lz] at this;simp[this]
        refine⟨⟨k+1,by omega,by rw[←hm];go_num,nX (cs:=(_,_,_)) hm hlt kk H2.out.1 HR.out.2.1 H2.out.2 hbxw,?_⟩,by simp[intOf];omega⟩;rw[show l.length-a-(k+1)=l.length-a-k-1 by omega,←tg hstop (by omega)];exact HR.out.2.2.2.2.1)
     ·have HS:=aa hs;clear hs;rcases aF (S=[84]) with rfl|hS1
      ·go_wp2_with (first
         | (go_at_call 140;refine(kQ _ _).mono ?_;rintro e w2 ⟨rfl,rfl⟩;rw[HS.out]))
       go_ret;refine⟨jN ?_,HR.out.2.1⟩;have hm:=HM.out;have hstop:gJ l a k=true:=by
         rw[oO l a k m hm hlt HS.out HR.out.2.2.2.1,←HR.out.1.1];simp[]
       rw[←HR.out.2.2.2.2.1,rK hstop,hm]
      have hS1b:(S==[84])=false:=by simpa using hS1
      rcases aF (S=[84,76]) with rfl|hS2
      ·cases h40:(((ByteArray.mk l.toArray)[m]'hlt).toNat:Int)!=40
       ·have h40n:((ByteArray.mk l.toArray)[m]'hlt).toNat=40:=by simp at h40;omega
        have H40:=aa h40n;clear h40n
        go_wp2_with (first
          | (go_at_call 140;refine(kQ _ _).mono ?_;rintro e w2 ⟨rfl,rfl⟩;rw[HS.out]))
        have hbxw:w.heap.size≤bx:=by have:=H1.out.2.size;have:=HBX.out;omega
        go_region_with (first
          | (go_at_call 92;refine(tw _ A n c _ _ _ _ _ (HR.out.1.next (by go_grown)) HR.out.2.2.2.1 (by have:=HR.out.2.2.2.2.2;have:=HM.out;omega)).mono ?_;rintro e w2 ⟨S2,A2,n2,c2,rfl,hx2,hb2⟩;have hb2':Below wr.heap.size wr w2:=jK (by go_grown) hb2;have kk:=HR.out.2.2.1.below hb2' HR.out.2.2.1.lt;obtain⟨v0,v1,v2,g0,g1,g2⟩:=kk.three;have H2:=aa (ac hx2 hb2');clear hx2 hb2 hb2'))
        all_goals go_wp2
        all_goals (
          have hm:=HM.out;have hstop:gJ l a k=false:=by
            rw[oO l a k m hm hlt HS.out HR.out.2.2.2.1,←HR.out.1.1];simp[H40.out]
          refine⟨⟨k+1,by omega,by rw[←hm];go_num,nX (cs:=(_,_,_)) hm hlt kk H2.out.1 HR.out.2.1 H2.out.2 hbxw,?_⟩,by simp[intOf];omega⟩;rw[show l.length-a-(k+1)=l.length-a-k-1 by omega,←tg hstop (by omega)];exact HR.out.2.2.2.2.1)
       ·have h40n:((ByteArray.mk l.toArray)[m]'hlt).toNat≠40:=by simp at h40;omega
        go_wp2_with (first
          | (go_at_call 140;refine(kQ _ _).mono ?_;rintro e w2 ⟨rfl,rfl⟩;rw[HS.out]))
        go_ret;refine⟨jN ?_,HR.out.2.1⟩;have hm:=HM.out;have hstop:gJ l a k=true:=by
          rw[oO l a k m hm hlt HS.out HR.out.2.2.2.1,←HR.out.1.1];simp[h40n]
        rw[←HR.out.2.2.2.2.1,rK hstop,hm]
      go_wp2_with (first
        | (go_at_call 140;refine(kQ _ _).mono ?_;rintro e w2 ⟨rfl,rfl⟩;rw[HS.out]))
      have hbxw:w.heap.size≤bx:=by have:=H1.out.2.size;have:=HBX.out;omega
      go_region_with (first
        | (go_at_call 92;refine(tw _ A n c _ _ _ _ _ (HR.out.1.next (by go_grown)) HR.out.2.2.2.1 (by have:=HR.out.2.2.2.2.2;have:=HM.out;omega)).mono ?_;rintro e w2 ⟨S2,A2,n2,c2,rfl,hx2,hb2⟩;have hb2':Below wr.heap.size wr w2:=jK (by go_grown) hb2;have kk:=HR.out.2.2.1.below hb2' HR.out.2.2.1.lt;obtain⟨v0,v1,v2,g0,g1,g2⟩:=kk.three;have H2:=aa (ac hx2 hb2');clear hx2 hb2 hb2'))
      all_goals go_wp2
      all_goals (
        have hm:=HM.out;have hstop:gJ l a k=false:=by
          rw[oO l a k m hm hlt HS.out HR.out.2.2.2.1,←HR.out.1.1];simp[hS1,hS2]
        refine⟨⟨k+1,by omega,by rw[←hm];go_num,nX (cs:=(_,_,_)) hm hlt kk H2.out.1 HR.out.2.1 H2.out.2 hbxw,?_⟩,by simp[intOf];omega⟩;rw[show l.length-a-(k+1)=l.length-a-k-1 by omega,←tg hstop (by omega)];exact HR.out.2.2.2.2.1)
    ·go_wp2;go_ret;refine⟨jN ?_,HR.out.2.1⟩;have hm:=HM.out;rw[←HR.out.2.2.2.2.1,show l.length-a-k=0 by omega];show (l.length:Int)=((a+k:Nat):Int);rw[hm];omega
end Go.Proofs.YtcagfamdoaoimaaGreatDoor
