/- quillwortref11.Right of any row, with all that it tells; quillwortref12.Right; the law's walk. -/
import Derived.Test.YtlbfdbinaekjoaaGreatDoorGj13
import Derived.Test.YtlbfdbinaekjoaaGreatDoorSt13
import Derived.Test.YtlbfdbinaekjoaaGreatDoorQg13
import Derived.Test.YtlbfdbinaekjoaaGreatDoorAr13
import Derived.BigQuiet
namespace Go.Proofs.YtlbfdbinaekjoaaGreatDoor
open Go.RowKit
set_option linter.unusedVariables false
set_option linter.unusedSimpArgs false
set_option maxRecDepth 100000
theorem RtN.lt {L:List Nz} {i:Nat} {x:Nz} (h:RtN L i x):x.up<(i:Int) ∧ -1≤x.up:=by
  obtain⟨_,_,_,h1,h2⟩:=h
  rcases Nat.eq_zero_or_pos i with h0|h0
  ·have:=h2 h0;omega
  ·have:=h1 h0;omega
def RtG (L:List Nz) (z:Int) (i:Nat) (x:Nz):Prop:=RtN L i x∧(i=0→x.tt=z)∧(0<i→abv L x.up.toNat (i-1+1) (i-1)=true∧∃m,L[x.up.toNat]? = some m∧m.fr≤x.fr∧x.tt≤m.tt)∧∀(k:Nat) (y:Nz),1≤k→k<i→L[k]? = some y→y.up=x.up→y.tt≤x.fr
set_option maxHeartbeats 8000000 in
theorem rightg_m (L:List Nz) (A:Option Addr) (c:Nat) (z:Int) (w:World) (hl:L.length≤200) (hne:0<L.length) (hrd:Rd w w.heap.size 4 (.slice A L.length c) L.length (nzcs L)) :
    Calls Tryz.prog 12 #[.slice A L.length c,.int .i64 z] w fun e w'=>∃b,e=.returned (.bool b)∧(b=true→∀(i:Nat) (x:Nz),L[i]? = some x→RtG L z i x)∧Below w.heap.size w w':=by
  have c1:∀W (u k:Nat),Below w.heap.size w W→k<L.length→0<k→(∀(j:Nat) (x:Nz),j<k→L[j]? = some x→RtG L z j x)→Calls Tryz.prog 20 #[.slice A L.length c,.int .i64 (u:Int),.int .i64 ((k-1:Nat):Int)] W fun e w'=>e=.returned (.bool (abv L u (k-1+1) (k-1)))∧w'=W:=
    fun W u k hW hk h0 h=>abovez_m L A c u (k-1) k W (by omega) ((hrd.keep hW (Nat.le_refl _)).mono hW.size) (by omega) (by omega) (fun j x hj hx=>(h j x hj hx).1.lt)
  have hne1:((L.length:Int)==0)=false:=beq_false_of_ne (by omega)
  have hne2:(0:Int)<(L.length:Int):=by omega
  obtain⟨x0,hx0⟩:∃x,L[0]? = some x:=⟨_,List.getElem?_eq_getElem hne⟩
  obtain⟨g,o,rfl,hgl,hc0⟩:=rd_sat nzc_len hrd hx0 rfl
  have y1:w.cell? ⟨g,o+1,none⟩=some (.int .i64 x0.fr):=by have:=hc0 1 _ rfl;simpa using this
  have y2:w.cell? ⟨g,o+2,none⟩=some (.int .i64 x0.tt):=by have:=hc0 2 _ rfl;simpa using this
  have y3:w.cell? ⟨g,o+3,none⟩=some (.int .i64 x0.up):=by have:=hc0 3 _ rfl;simpa using this
  have HC:=Lib.hid (And.intro c1 (And.intro hrd hx0))
  clear c1 hrd hc0 hx0
  have key:(x0.up != -1)=true∨((x0.up != -1)=false∧(x0.fr != 0)=true)∨((x0.up != -1)=false∧(x0.fr != 0)=false∧(x0.tt != z)=true)∨((x0.up != -1)=false∧(x0.fr != 0)=false∧(x0.tt != z)=false):=by
    cases (x0.up != -1)<;>cases (x0.fr != 0)<;>cases (x0.tt != z)<;>simp
  rcases key with t1|⟨t1,t2⟩|⟨t1,t2,t3⟩|⟨t1,t2,t3⟩
  rotate_right
  ·have e1:x0.up = -1:=by simpa using t1
   have e2:x0.fr=0:=by simpa using t2
   have e3:x0.tt=z:=by simpa using t3
   have HE:=Lib.hid (And.intro e1 (And.intro e2 e3))
   clear e1 e2 e3
   go_enter Tryz.func12,Tryz.ntmps12
   go_wp2_with fail
   clear y1 y2 y3 t1 t2 t3
   go_loopw [5] (fun i wr=>∃k:Nat,k≤L.length∧i=.int .i64 k∧Below w.heap.size w wr∧∀(j:Nat) (x:Nz),j<k→L[j]? = some x→RtG L z j x) (fun i _=>L.length-(intOf i).toNat)
   case atStart=>exact⟨0,Nat.zero_le _,rfl,Below.refl _ _,fun j x hj=>by omega⟩
   case round=>
     obtain⟨k,hk,rfl,hb,hI⟩:=hrel
     by_cases hlt:k<L.length
     ·have u1:(k:Int)<(L.length:Int):=by omega
      have u2:(0:Int)≤(k:Int):=by omega
      obtain⟨x,hx⟩:∃x,L[k]? = some x:=⟨_,List.getElem?_eq_getElem hlt⟩
      have hR:=HC.out.2.1.keep hb (Nat.le_refl _)
      obtain⟨g0,o0,e0,_,hc⟩:=rd_sat nzc_len hR hx rfl
      cases e0
      obtain⟨kd,fr,tt,up⟩:=x
      have z0:wr.cell? ⟨g,o+k*4,none⟩=some (.int .i64 kd):=hc 0 _ rfl
      have z1:wr.cell? ⟨g,o+k*4+1,none⟩=some (.int .i64 fr):=hc 1 _ rfl
      have z2:wr.cell? ⟨g,o+k*4+2,none⟩=some (.int .i64 tt):=hc 2 _ rfl
      have z3:wr.cell? ⟨g,o+k*4+3,none⟩=some (.int .i64 up):=hc 3 _ rfl
      have HB:=Lib.hid (And.intro hb (And.intro hI hx))
      by_cases h1:kd<1
      ·have t1:decide (kd<1)=true:=decide_eq_true h1
       clear hb hI hx hR hc h1
       go_wp2_with fail
       go_quiet (fail)
       go_wp2_with fail
       go_ret
       exact⟨false,rfl,(fun h=>by cases h),below_drewN' HB.out.1 _⟩
      have t1:decide (kd<1)=false:=decide_eq_false h1
      by_cases h2:18<kd
      ·have t2:decide ((18:Int)<kd)=true:=decide_eq_true h2
       clear hb hI hx hR hc h1 h2
       go_wp2_with fail
       go_quiet (fail)
       go_wp2_with fail
       go_ret
       exact⟨false,rfl,(fun h=>by cases h),below_drewN' HB.out.1 _⟩
      have t2:decide ((18:Int)<kd)=false:=decide_eq_false h2
      by_cases h3:tt<fr
      ·have t3:decide (tt<fr)=true:=decide_eq_true h3
       clear hb hI hx hR hc h1 h2 h3
       go_wp2_with fail
       go_quiet (fail)
       go_wp2_with fail
       go_ret
       exact⟨false,rfl,(fun h=>by cases h),below_drewN' HB.out.1 _⟩
      have t3:decide (tt<fr)=false:=decide_eq_false h3
      by_cases hk0:k=0
      ·subst hk0
       have hn:RtG L z 0 ⟨kd,fr,tt,up⟩:=by
         rw[HC.out.2.2] at hx
         cases hx
         exact⟨⟨by show 1≤kd;omega,by show kd≤18;omega,by show fr≤tt;omega,fun h=>by omega,fun _=>⟨HE.out.1,HE.out.2.1⟩⟩,fun _=>HE.out.2.2,fun h=>absurd h (by decide),fun a y h1 h2=>by omega⟩
       have HN:=Lib.hid hn
       clear hb hI hx hR hc h1 h2 h3 hn
       simp only[Nat.zero_mul,Nat.add_zero] at z0 z1 z2
       go_wp2_with fail
       go_quiet (fail)
       go_wp2_with fail
       refine⟨⟨1,by omega,by go_num,below_drewN' HB.out.1 _,fun j y hj hy=>?_⟩,by simp[intOf]<;>omega⟩
       obtain rfl:j=0:=by omega
       rw[HB.out.2.2] at hy
       cases hy
       exact HN.out
      have t4:((k:Int)==0)=false:=beq_false_of_ne (by omega)
      have e1:(k:Int)-1=((k-1:Nat):Int):=by omega
      have HK:=Lib.hid (And.intro hk0 e1)
      by_cases h5:up<0
      ·have t5:decide (up<0)=true:=decide_eq_true h5
       clear hb hI hx hR hc h1 h2 h3 h5 hk0 e1
       go_wp2_with fail
       go_quiet (fail)
       go_wp2_with fail
       go_quiet (fail)
       go_wp2_with fail
       go_ret
       first
         | exact⟨false,rfl,(fun h=>by cases h),below_drewN' HB.out.1 _⟩
         | exact⟨false,rfl,(fun h=>by cases h),below_drewN' (below_drewN' HB.out.1 _) _⟩
      have t5:decide (up<0)=false:=decide_eq_false h5
      by_cases h6:(k:Int)≤up
      ·have t6:decide ((k:Int)≤up)=true:=decide_eq_true h6
       clear hb hI hx hR hc h1 h2 h3 h5 h6 hk0 e1
       go_wp2_with fail
       go_quiet (fail)
       go_wp2_with fail
       go_quiet (fail)
       go_wp2_with fail
       go_ret
       first
         | exact⟨false,rfl,(fun h=>by cases h),below_drewN' HB.out.1 _⟩
         | exact⟨false,rfl,(fun h=>by cases h),below_drewN' (below_drewN' HB.out.1 _) _⟩
      obtain⟨u,rfl⟩:∃u:Nat,up=(u:Int):=⟨up.toNat,by omega⟩
      have t5b:decide ((u:Int)<0)=false:=decide_eq_false (by omega)
      have t6:decide ((k:Int)≤(u:Int))=false:=decide_eq_false h6
      have t6b:decide (k≤u)=false:=decide_eq_false (by omega)
      obtain⟨m,hm⟩:∃m,L[u]? = some m:=⟨_,List.getElem?_eq_getElem (by omega)⟩
      obtain⟨g0,o0,e0,_,hcu⟩:=rd_sat nzc_len hR hm rfl
      cases e0
      obtain⟨mk,mf,mtt,mu⟩:=m
      have v1:wr.cell? ⟨g,o+u*4+1,none⟩=some (.int .i64 mf):=hcu 1 _ rfl
      have v2:wr.cell? ⟨g,o+u*4+2,none⟩=some (.int .i64 mtt):=hcu 2 _ rfl
      have u3:(0:Int)≤(u:Int):=by omega
      have u4:(u:Int)<(L.length:Int):=by omega
      have cA:=fun W (hW:Below w.heap.size w W)=>HC.out.1 W u k hW hlt (by omega) HB.out.2.1
      obtain⟨av,hav⟩:∃av,av=abv L u (k-1+1) (k-1):=⟨_,rfl⟩
      rw[←hav] at cA
      have HA:=Lib.hid cA
      have HAV:=Lib.hid hav
      have HM:=Lib.hid hm
      clear cA hav hm hcu
      cases av
      ·clear hb hI hx hR hc h1 h2 h3 h5 h6 hk0 e1
       go_wp2_with fail
       go_quiet (fail)
       go_wp2_with fail
       go_quiet (first
         | (go_at_call 20
            first|rw[HK.out.2]|skip
            refine(HA.out _ (below_drewN' HB.out.1 _)).mono ?_
            rintro e w' ⟨rfl,rfl⟩
            exact⟨rfl,_,rfl⟩))
       go_wp2_with fail
       go_ret
       first
         | exact⟨false,rfl,(fun h=>by cases h),below_drewN' HB.out.1 _⟩
         | exact⟨false,rfl,(fun h=>by cases h),below_drewN' (below_drewN' HB.out.1 _) _⟩
      by_cases h7:fr<mf
      ·have t7:decide (fr<mf)=true:=decide_eq_true h7
       clear hb hI hx hR hc h1 h2 h3 h5 h6 h7 hk0 e1
       go_wp2_with fail
       go_quiet (fail)
       go_wp2_with fail
       go_quiet (first
         | (go_at_call 20
            first|rw[HK.out.2]|skip
            refine(HA.out _ (below_drewN' HB.out.1 _)).mono ?_
            rintro e w' ⟨rfl,rfl⟩
            exact⟨rfl,_,rfl⟩))
       go_wp2_with fail
       go_ret
       first
         | exact⟨false,rfl,(fun h=>by cases h),below_drewN' HB.out.1 _⟩
         | exact⟨false,rfl,(fun h=>by cases h),below_drewN' (below_drewN' HB.out.1 _) _⟩
      have t7:decide (fr<mf)=false:=decide_eq_false h7
      by_cases h8:mtt<tt
      ·have t8:decide (mtt<tt)=true:=decide_eq_true h8
       clear hb hI hx hR hc h1 h2 h3 h5 h6 h7 h8 hk0 e1
       go_wp2_with fail
       go_quiet (fail)
       go_wp2_with fail
       go_quiet (first
         | (go_at_call 20
            first|rw[HK.out.2]|skip
            refine(HA.out _ (below_drewN' HB.out.1 _)).mono ?_
            rintro e w' ⟨rfl,rfl⟩
            exact⟨rfl,_,rfl⟩))
       go_wp2_with fail
       go_ret
       first
         | exact⟨false,rfl,(fun h=>by cases h),below_drewN' HB.out.1 _⟩
         | exact⟨false,rfl,(fun h=>by cases h),below_drewN' (below_drewN' HB.out.1 _) _⟩
      have t8:decide (mtt<tt)=false:=decide_eq_false h8
      have hn:RtN L k ⟨kd,fr,tt,(u:Int)⟩:=⟨by show 1≤kd;omega,by show kd≤18;omega,by show fr≤tt;omega,fun _=>⟨u3,by show (u:Int)<k;omega,⟨mk,mf,mtt,mu⟩,by show L[((u:Int)).toNat]? = _;rw[Int.toNat_natCast];exact HM.out,by show mf≤fr;omega⟩,fun h=>absurd h hk0⟩
      have HN:=Lib.hid (And.intro hn (show ∃m,L[((u:Int)).toNat]? = some m∧m.fr≤fr∧tt≤m.tt from ⟨⟨mk,mf,mtt,mu⟩,by rw[Int.toNat_natCast];exact HM.out,by show mf≤fr;omega,by show tt≤mtt;omega⟩))
      clear hb hI hx hR hc h1 h2 h3 h5 h6 h7 h8 hk0 e1 hn
      go_wp2_with fail
      go_quiet (fail)
      go_wp2_with fail
      go_quiet (first
        | (go_at_call 20
           first|rw[HK.out.2]|skip
           refine(HA.out _ (below_drewN' HB.out.1 _)).mono ?_
           rintro e w' ⟨rfl,rfl⟩
           exact⟨rfl,_,rfl⟩))
      go_wp2_with fail
      clear z0 z1 z2 z3 v1 v2
      go_loopw [7] (fun i wv=>∃j:Nat,1≤j∧j≤k∧i=.int .i64 j∧Below w.heap.size w wv∧∀(a:Nat) (y:Nz),1≤a→a<j→L[a]? = some y→y.up=(u:Int)→y.tt≤fr) (fun i _=>k-(intOf i).toNat)
      case atStart=>exact⟨1,Nat.le_refl _,by have:=HK.out.1;omega,rfl,by first|exact below_drewN' HB.out.1 _|exact below_drewN' (below_drewN' HB.out.1 _) _,fun a y h1 h2=>by omega⟩
      case round=>
        obtain⟨j,hj1,hj,rfl,hb,hsb⟩:=hrel
        have HSB:=Lib.hid hsb
        clear hsb
        by_cases hjk:j<k
        ·have p1:(j:Int)<(k:Int):=by omega
         have p2:(0:Int)≤(j:Int):=by omega
         have p3:(j:Int)<(L.length:Int):=by omega
         obtain⟨q,hq⟩:∃q,L[j]? = some q:=⟨_,List.getElem?_eq_getElem (by omega)⟩
         have hR:=HC.out.2.1.keep hb (Nat.le_refl _)
         obtain⟨g0,o0,e0,_,hc⟩:=rd_sat nzc_len hR hq rfl
         cases e0
         obtain⟨g0,o0,e0,_,hcx⟩:=rd_sat nzc_len hR HB.out.2.2 rfl
         cases e0
         obtain⟨qk,qf,qt,qu⟩:=q
         have q2:=hc 2 _ rfl
         have q3:=hc 3 _ rfl
         have x1:=hcx 1 _ rfl
         have HJ:=Lib.hid hb
         have HQ:=Lib.hid hq
         clear hb hR hc hcx hq
         by_cases hup:qu=(u:Int)
         ·have w1:(qu==(u:Int))=true:=by rw[hup];simp
          by_cases h9:fr<qt
          ·have w2:decide (fr<qt)=true:=decide_eq_true h9
           clear h9 hup
           go_wp2_with fail
           go_quiet (fail)
           go_wp2_with fail
           go_ret
           exact⟨false,rfl,(fun h=>by cases h),below_drewN' HJ.out _⟩
          ·have w2:decide (fr<qt)=false:=decide_eq_false h9
           have H9:=Lib.hid h9
           clear h9 hup
           go_wp2_with fail
           go_quiet (fail)
           go_wp2_with fail
           refine⟨⟨j+1,by omega,by omega,by go_num,below_drewN' HJ.out _,fun a y h1 h2 h3 h4=>?_⟩,by simp[intOf]<;>omega⟩
           rcases Nat.lt_or_ge a j with h|h
           ·exact HSB.out a y h1 h h3 h4
           ·obtain rfl:a=j:=by omega
            rw[HQ.out] at h3
            cases h3
            have:=H9.out
            show qt≤fr
            omega
         ·have w1:(qu==(u:Int))=false:=beq_false_of_ne hup
          have H9:=Lib.hid hup
          clear hup
          go_wp2_with fail
          go_quiet (fail)
          go_wp2_with fail
          refine⟨⟨j+1,by omega,by omega,by go_num,below_drewN' HJ.out _,fun a y h1 h2 h3 h4=>?_⟩,by simp[intOf]<;>omega⟩
          rcases Nat.lt_or_ge a j with h|h
          ·exact HSB.out a y h1 h h3 h4
          ·obtain rfl:a=j:=by omega
           rw[HQ.out] at h3
           cases h3
           exact absurd h4 H9.out
        ·obtain rfl:j=k:=by omega
         have HJ:=Lib.hid hb
         clear hb
         go_wp2_with fail
         refine⟨⟨j+1,by omega,by go_num,HJ.out,fun i y hi hy=>?_⟩,by simp[intOf]<;>omega⟩
         rcases Nat.lt_or_ge i j with h|h
         ·exact HB.out.2.1 i y h hy
         ·obtain rfl:i=j:=by omega
          rw[HB.out.2.2] at hy
          cases hy
          exact⟨HN.out.1,fun h0=>absurd h0 (by omega),fun _=>⟨HAV.out.symm,HN.out.2⟩,fun a y h1 h2 h3 h4=>HSB.out a y h1 h2 h3 h4⟩
     ·obtain rfl:k=L.length:=by omega
      have HB:=Lib.hid (And.intro hb hI)
      clear hb hI
      go_wp2_with fail
      go_ret
      exact⟨true,rfl,fun _ i x hx=>HB.out.2 i x (List.getElem?_eq_some_iff.1 hx).1 hx,HB.out.1⟩
  all_goals (
    go_enter Tryz.func12,Tryz.ntmps12
    go_wp2_with fail
    go_ret
    exact⟨false,rfl,(fun h=>by cases h),Below.refl _ _⟩)
end Go.Proofs.YtlbfdbinaekjoaaGreatDoor
namespace Go.Proofs.YtlbfdbinaekjoaaGreatDoor
open Go.RowKit
set_option linter.unusedVariables false
set_option linter.unusedSimpArgs false
set_option maxRecDepth 100000
def toNd (x:Nz):Nd:=⟨x.kd.toNat,x.fr.toNat,x.tt.toNat,x.up⟩
theorem RtG.pos {L:List Nz} {z:Int} (h:∀(i:Nat) (x:Nz),L[i]? = some x→RtG L z i x):∀(i:Nat) (x:Nz),L[i]? = some x→0≤x.fr∧x.tt≤z:=by
  intro i
  induction i using Nat.strongRecOn with
  | _ i ih=>
    intro x hx
    obtain⟨h1,h2,h3,_⟩:=h i x hx
    rcases Nat.eq_zero_or_pos i with h0|h0
    ·have:=h1.2.2.2.2 h0;have:=h2 h0;omega
    ·obtain⟨_,m,hm,a,b⟩:=h3 h0
     have hu:=(h1.2.2.2.1 h0)
     have:=ih x.up.toNat (by omega) m hm
     omega
theorem toNd_nz {L:List Nz} {z:Int} (h:∀(i:Nat) (x:Nz),L[i]? = some x→RtG L z i x):(L.map toNd).map nz=L:=by
  rw[List.map_map]
  refine List.ext_getElem? fun i=>?_
  rw[List.getElem?_map]
  cases hx:L[i]? with
  | none=>rfl
  | some x=>
    have h1:=(h i x hx).1
    have h2:=RtG.pos h i x hx
    show some (nz (toNd x))=some x
    obtain⟨kd,fr,tt,up⟩:=x
    have e1:((kd.toNat:Nat):Int)=kd:=Int.toNat_of_nonneg (by have:1≤kd:=h1.1;omega)
    have e2:((fr.toNat:Nat):Int)=fr:=Int.toNat_of_nonneg h2.1
    have e3:((tt.toNat:Nat):Int)=tt:=Int.toNat_of_nonneg (by have:fr≤tt:=h1.2.2.1;have:0≤fr:=h2.1;omega)
    show some (⟨((kd.toNat:Nat):Int),((fr.toNat:Nat):Int),((tt.toNat:Nat):Int),up⟩:Nz)=_
    rw[e1,e2,e3]
theorem nd_facts {L:List Nz} {N:Nat} (h:∀(i:Nat) (x:Nz),L[i]? = some x→RtG L (N:Int) i x):∀(i:Nat) (x:Nd),(L.map toNd)[i]? = some x→RtF (L.map toNd) N i x:=by
  intro i x hx
  rw[List.getElem?_map] at hx
  obtain⟨y,hy,rfl⟩:=Option.map_eq_some_iff.1 hx
  obtain⟨h1,h2,h3,h4⟩:=h i y hy
  have hp:=RtG.pos h i y hy
  obtain⟨a1,a2,a3,a4,a5⟩:=h1
  refine⟨⟨by show 1≤y.kd.toNat;omega,by show y.kd.toNat≤18;omega⟩,by show y.fr.toNat≤y.tt.toNat;omega,fun h0=>⟨(a5 h0).1,by show y.fr.toNat=0;have:=(a5 h0).2;omega,by show y.tt.toNat=N;have:=h2 h0;omega⟩,fun h0=>?_,fun k z hk1 hk2 hz hzu=>?_⟩
  ·obtain⟨b1,m,hm,b2,b3⟩:=h3 h0
   obtain⟨c1,c2,_⟩:=a4 h0
   have hmp:=RtG.pos h _ m hm
   refine⟨y.up.toNat,toNd m,by show y.up=_;omega,by omega,?_,by rw[List.getElem?_map,hm];rfl,by show m.fr.toNat≤y.fr.toNat;omega,by show y.tt.toNat≤m.tt.toNat;omega⟩
   unfold abN
   rw[toNd_nz h]
   exact b1
  ·rw[List.getElem?_map] at hz
   obtain⟨v,hv,rfl⟩:=Option.map_eq_some_iff.1 hz
   have:=h4 k v hk1 hk2 hv hzu
   show v.tt.toNat≤y.fr.toNat
   omega
def RtE (F:List Lf) (L:List Nz) (w:World) (e:Ending) (w':World):Prop:=∃b:Bool,e=.returned (.bool b)∧(b=true→L=(parseT F).l.map nz)∧Below w.heap.size w w'
theorem rtE_no {F:List Lf} {L:List Nz} {w w':World} (h:Below w.heap.size w w'):RtE F L w (.returned (.bool false)) w':=⟨false,rfl,(fun h=>by cases h),h⟩
theorem rtE_yes {F:List Lf} {L:List Nz} {w w':World} (h:Below w.heap.size w w') (k:L=(parseT F).l.map nz):RtE F L w (.returned (.bool true)) w':=⟨true,rfl,fun _=>k,h⟩
theorem right0_m (B:Option Addr) (d:Nat) (z:Int) (w:World):Calls Tryz.prog 12 #[.slice B 0 d,.int .i64 z] w fun e w'=>e=.returned (.bool false)∧w'=w:=by
  go_enter Tryz.func12,Tryz.ntmps12
  go_wp2_with fail
  go_ret
  exact⟨rfl,rfl⟩
set_option maxHeartbeats 8000000 in
theorem right12_m (F:List Lf) (L:List Nz) (A B:Option Addr) (c d:Nat) (w:World) (hF:FB F) (hF4:F.length≤40) (hL:L.length≤200) (h1:Rd w w.heap.size 4 (.slice A F.length c) F.length (lfcs F)) (h2:Rd w w.heap.size 4 (.slice B L.length d) L.length (nzcs L)) :
    Calls Tryz.prog 6 #[.slice A F.length c,.slice B L.length d] w fun e w'=>RtE F L w e w':=by
  rcases Nat.eq_zero_or_pos L.length with h0|h0
  ·rw[h0]
   go_enter Tryz.func6,Tryz.ntmps6
   go_wp2_with (
     go_at_call 12
     refine(right0_m _ _ _ _).mono ?_
     rintro e w' ⟨rfl,rfl⟩)
   go_ret
   exact rtE_no (Below.refl _ _)
  obtain⟨x0,hx0⟩:∃x,L[0]? = some x:=⟨_,List.getElem?_eq_getElem h0⟩
  have cR:=rightg_m L B d (F.length:Int) w hL h0 h2
  obtain⟨g,o,rfl,_,hc⟩:=rd_sat nzc_len h2 hx0 rfl
  have y0:w.cell? ⟨g,o,none⟩=some (.int .i64 x0.kd):=by have:=hc 0 _ rfl;simpa using this
  have u0:(0:Int)<(L.length:Int):=by omega
  have HC:=Lib.hid (And.intro h1 (And.intro h2 (And.intro hF (And.intro cR hx0))))
  clear h1 h2 hF cR hc hx0
  go_enter Tryz.func6,Tryz.ntmps6
  by_cases hk:x0.kd=1
  case' pos=>have t1:(x0.kd != 1)=false:=by rw[hk];rfl
  case' neg=>have t1:(x0.kd != 1)=true:=by simpa using hk
  case neg=>
    clear hk
    go_wp2_with (
      go_at_call 12
      refine HC.out.2.2.2.1.mono ?_
      rintro e w1 ⟨b,rfl,hr,hb⟩
      have y0:=bkp hb y0
      have H1:=Lib.hid hb
      clear hb hr
      cases b)
    all_goals (
      go_wp2_with fail
      go_ret
      exact rtE_no H1.out)
  case pos=>
  have HK:=Lib.hid hk
  clear hk
  go_upto_if 17 with (
    go_at_call 12
    refine HC.out.2.2.2.1.mono ?_
    rintro e w1 ⟨b,rfl,hr,hb⟩
    have y0:=bkp hb y0
    have H1:=Lib.hid (And.intro hr hb)
    clear hb hr
    by_cases hbt:b=true
    case neg=>
      obtain rfl:b=false:=by simpa using hbt
      clear hbt
      go_wp2_with fail
      go_ret
      exact rtE_no H1.out.2
    subst hbt)
  have hG:=H1.out.1 (by first|trivial|rfl)
  have hnz:=toNd_nz hG
  have hRF:=nd_facts (N:=F.length) hG
  obtain⟨M,hM⟩:∃M,M=L.map toNd:=⟨_,rfl⟩
  rw[←hM] at hnz hRF
  have hml:M.length=L.length:=by rw[hM,List.length_map]
  have hNB:NdB F M:=fun j y hy=>⟨(hRF j y hy).hk,(hRF j y hy).le,tt_le hRF j y hy⟩
  have hUB:UpB M:=fun j y hy=>⟨up_lt hRF hy,by
    have h:=hRF j y hy
    rcases Nat.eq_zero_or_pos j with e|e
    ·have:=(h.z e).1;omega
    ·obtain⟨u,_,e,_⟩:=h.up e;omega⟩
  have hM2:∀W,Below w1.heap.size w1 W→Rd W W.heap.size 4 (.slice (some ⟨g,o,none⟩) M.length d) M.length (ndcs M):=fun W hW=>by
    rw[hml,ndcs_nz,hnz]
    have hb:=H1.out.2.trans (hW.mono H1.out.2.size)
    exact(HC.out.2.1.keep hb (Nat.le_refl _)).mono hb.size
  have cF:∀(k:Nat) (x:Nd) (W:World),M[k]? = some x→Below w1.heap.size w1 W→Calls Tryz.prog 13 #[.slice A F.length c,.slice (some ⟨g,o,none⟩) L.length d,.int .i64 (k:Int)] W fun e w'=>FitE F M k x W e w':=fun k x W hx hW=>by
    have hb:=H1.out.2.trans (hW.mono H1.out.2.size)
    have:=fits12_m F M A _ c d k x W HC.out.2.2.1 hF4 (by omega) ((HC.out.1.keep hb (Nat.le_refl _)).mono hb.size) (hM2 W hW) hx hNB hUB
    rw[hml] at this
    exact this
  have hfin:(∀(j:Nat) (x:Nd),M[j]? = some x→FitL F M j x)→L=(parseT F).l.map nz:=fun hf=>by
    have hx:M[0]? = some (toNd x0):=by rw[hM,List.getElem?_map,HC.out.2.2.2.2];rfl
    rw[found hRF hf hx (by show x0.kd.toNat=1;rw[HK.out];rfl),hnz]
  have HF:=Lib.hid (And.intro cF (And.intro hfin hml))
  clear hG hnz hRF hM hml hNB hUB hM2 cF hfin y0
  go_wp2_with fail
  go_loopw [5] (fun sk wr=>∃k:Nat,k≤L.length∧sk=.int .i64 k∧(∀(j:Nat) (x:Nd),j<k→M[j]? = some x→FitL F M j x)∧Below w1.heap.size w1 wr) (fun sk _=>L.length-(intOf sk).toNat)
  case atStart=>exact⟨0,Nat.zero_le _,rfl,fun j x h=>by omega,Below.refl _ _⟩
  case round=>
    obtain⟨k,hk,rfl,hf,hb⟩:=hrel
    by_cases hlt:k<L.length
    ·have v1:(k:Int)<(L.length:Int):=by omega
     have v2:(0:Int)≤(k:Int):=by omega
     obtain⟨x,hx⟩:∃x,M[k]? = some x:=⟨_,List.getElem?_eq_getElem (by rw[HF.out.2.2];exact hlt)⟩
     have H:=Lib.hid (And.intro hb (And.intro hf (And.intro (HF.out.1 k x wr hx hb) hx)))
     clear hb hf hx
     go_wp2_with (
       go_at_call 13
       refine H.out.2.2.1.mono ?_
       rintro e w2 ⟨b,rfl,hr,hb⟩
       have H2:=Lib.hid (And.intro hr (H.out.1.trans (hb.mono H.out.1.size)))
       clear hb hr
       by_cases hbt:b=true
       case neg=>
         obtain rfl:b=false:=by simpa using hbt
         clear hbt
         go_wp2_with fail
         go_ret
         exact rtE_no (H1.out.2.trans (H2.out.2.mono H1.out.2.size))
       subst hbt)
     refine⟨⟨k+1,by omega,by go_num,fun j y hj hy=>?_,H2.out.2⟩,by simp[intOf]<;>omega⟩
     rcases Nat.lt_or_ge j k with h|h
     ·exact H.out.2.1 j y h hy
     ·obtain rfl:j=k:=by omega
      rw[H.out.2.2.2] at hy
      cases hy
      exact H2.out.1 (by first|trivial|rfl)
    ·obtain rfl:k=L.length:=by omega
     have H:=Lib.hid (And.intro hb hf)
     clear hb hf
     go_wp2_with fail
     go_ret
     exact rtE_yes (H1.out.2.trans (H.out.1.mono H1.out.2.size)) (HF.out.2.1 fun j x hx=>H.out.2 j x (by rw[←HF.out.2.2];exact(List.getElem?_eq_some_iff.1 hx).1) hx)
set_option maxHeartbeats 8000000 in
theorem parseFinds_w (F:List Lf) (A:Option Addr) (n c:Nat) (L:List Nz) (B:Option Addr) (m d:Nat) (w:World) (hrd:Rd w w.heap.size 4 (.slice A n c) n (lfcs F)) (hn:n=F.length) (hm1:n≤9223372036854775807) (hrd':Rd w w.heap.size 4 (.slice B m d) m (nzcs L)) (hn':m=L.length) (hm1':m≤9223372036854775807) :
    Calls Tryz.prog 3 #[.slice A n c,.slice B m d] w fun e w'=>e=.returned (.bool true)∧Below w.heap.size w w':=by
  subst hn hn'
  have hR0:∀W,Below w.heap.size w W→Rd W W.heap.size 4 (.slice A F.length c) F.length (lfcs F):=fun W hW=>(hrd.keep hW (Nat.le_refl _)).mono hW.size
  have hR1:∀W,Below w.heap.size w W→Rd W W.heap.size 4 (.slice B L.length d) L.length (nzcs L):=fun W hW=>(hrd'.keep hW (Nat.le_refl _)).mono hW.size
  have s1:∀W,Below w.heap.size w W→Calls Tryz.prog 5 #[.slice A F.length c,.int .i64 40] W fun e w'=>e=.returned (.bool (shF F 40))∧w'=W:=
    fun W hW=>short_m F A c 40 W hm1 (hR0 W hW)
  cases hsh:shF F 40 with
  | false=>
    rw[hsh] at s1
    have HS:=Lib.hid s1
    clear s1 hrd hsh hrd' hR0 hR1
    go_enter Tryz.func3,Tryz.ntmps3
    go_wp2_with (first
      | (go_at_call 4
         refine(awake13_c _).mono ?_
         rintro e w1 ⟨rfl,hb⟩
         have H1:=Lib.hid hb
         clear hb)
      | (go_at_call 5
         refine(HS.out _ H1.out).mono ?_
         rintro e w2 ⟨rfl,rfl⟩)
      | fail)
    go_ret
    exact⟨rfl,H1.out⟩
  | true=>
    obtain⟨hl,ht⟩:=shF_fb hsh
    rw[hsh] at s1
    have hF:FB F:=⟨by omega,fun x hx=>by have:=ht x hx;omega⟩
    by_cases h200:L.length≤200
    case neg=>
      have t2:(200:Int)<(L.length:Int):=by omega
      have HS:=Lib.hid s1
      clear s1 hrd hsh hrd' hR0 hR1 h200 ht
      go_enter Tryz.func3,Tryz.ntmps3
      go_wp2_with (first
        | (go_at_call 4
           refine(awake13_c _).mono ?_
           rintro e w1 ⟨rfl,hb⟩
           have H1:=Lib.hid hb
           clear hb)
        | (go_at_call 5
           refine(HS.out _ H1.out).mono ?_
           rintro e w2 ⟨rfl,rfl⟩)
        | fail)
      go_ret
      exact⟨rfl,H1.out⟩
    have t2:¬(200:Int)<(L.length:Int):=by omega
    have hlen:=parse_len F
    have hP:∀W,Below w.heap.size w W→Calls Tryz.prog 8 #[.slice A F.length c] W fun e w'=>∃v,e=.returned v∧w'.ownsRow W.heap.size 38 4 v (parseT F).l.length (ndcs (parseT F).l)∧Below W.heap.size W w':=
      fun W hW=>parse_m F _ W hF (hR0 W hW)
    have cR:∀W,Below w.heap.size w W→Calls Tryz.prog 6 #[.slice A F.length c,.slice B L.length d] W fun e w'=>RtE F L W e w':=fun W hW=>right12_m F L A B c d W hF hl h200 (hR0 W hW) (hR1 W hW)
    have cS:L=(parseT F).l.map nz→∀(A2:Option Addr) (c2:Nat) (W:World),Rd W W.heap.size 4 (.slice A2 (parseT F).l.length c2) (parseT F).l.length (ndcs (parseT F).l)→Rd W W.heap.size 4 (.slice B L.length d) L.length (nzcs L)→Calls Tryz.prog 7 #[.slice A2 (parseT F).l.length c2,.slice B L.length d] W fun e w'=>e=.returned (.bool true)∧Below W.heap.size W w':=fun e A2 c2 W k1 k2=>by
      have el:L.length=(parseT F).l.length:=by rw[e,List.length_map]
      rw[el,e,←ndcs_nz] at k2
      have h9:=sametree_m (parseT F).l A2 B c2 d W (by omega) k1 k2
      rw[el]
      exact h9
    have HC:=Lib.hid (And.intro s1 (And.intro hP (And.intro cR (And.intro cS hR1))))
    clear s1 hP cR cS hrd hrd' hsh hF ht hR0 hR1 h200 hlen
    go_enter Tryz.func3,Tryz.ntmps3
    go_wp2_with (first
      | (go_at_call 7
         refine(HC.out.2.2.2.1 (H2.out.1 (by first|trivial|rfl)) _ _ _ H3.out.1 (HC.out.2.2.2.2 _ H3.out.2)).mono ?_
         rintro e w4 ⟨rfl,hb⟩
         have H4:=Lib.hid (H3.out.2.trans (hb.mono H3.out.2.size))
         clear hb)
      | (go_at_call 8
         with_reducible refine(HC.out.2.1 _ H2.out.2).mono ?_
         rintro e w3 ⟨v,rfl,ho,hb⟩
         obtain⟨A2,n2,c2,rfl⟩:=own_form' ho
         obtain rfl:=own_len ho
         have H3:=Lib.hid (And.intro (Rd.of_own ho) (H2.out.2.trans (hb.mono H2.out.2.size)))
         clear ho hb)
      | (go_at_call 6
         refine(HC.out.2.2.1 _ H1.out).mono ?_
         rintro e w2 ⟨b,rfl,hr,hb⟩
         have H2:=Lib.hid (And.intro hr (H1.out.trans (hb.mono H1.out.size)))
         clear hb hr
         by_cases hbt:b=true
         case neg=>
           obtain rfl:b=false:=by simpa using hbt
           clear hbt
           go_wp2_with fail
           go_ret
           exact⟨rfl,H2.out.2⟩
         subst hbt)
      | (go_at_call 4
         refine(awake13_c _).mono ?_
         rintro e w1 ⟨rfl,hb⟩
         have H1:=Lib.hid hb
         clear hb)
      | (go_at_call 5
         refine(HC.out.1 _ H1.out).mono ?_
         rintro e w2 ⟨rfl,rfl⟩)
      | fail)
    go_ret
    exact⟨rfl,H4.out⟩
end Go.Proofs.YtlbfdbinaekjoaaGreatDoor
