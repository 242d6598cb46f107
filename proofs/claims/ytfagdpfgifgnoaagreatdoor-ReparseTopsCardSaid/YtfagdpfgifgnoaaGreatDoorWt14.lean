/- The last step of a law: the call answered true and kept all that was there; so the row's post holds. -/
import Derived.Test.YtfagdpfgifgnoaaGreatDoorRows
import Derived.Test.YtfagdpfgifgnoaaGreatDoorTo29
import Derived.Test.YtfagdpfgifgnoaaGreatDoorSt13
import Derived.Test.YtfagdpfgifgnoaaGreatDoorSm9
import Derived.Test.YtfagdpfgifgnoaaGreatDoorWs13
import Derived.Test.YtfagdpfgifgnoaaGreatDoorMb13
import Derived.Test.YtfagdpfgifgnoaaGreatDoorDp14
import Derived.WalkKit
import Derived.ProofKit
import Derived.OpenShut
import Derived.ShutString
import Derived.Below
import Derived.ChangeSame
import Derived.BigQuiet
set_option linter.unusedVariables false
set_option linter.unusedSimpArgs false
set_option maxRecDepth 100000
set_option maxHeartbeats 8000000
namespace Go.Proofs.YtfagdpfgifgnoaaGreatDoor
section
open Go.ChangeShapes Go.WideShapes Go.ChangeAt Go.RowKit
theorem Fj {H:Type} {enc:TypeId×Value→H} {f:Func} {s:ChangeSpec} {apart fresh handsOn again:Bool} {W W':World} {args:Array Value} {ds:List (DataW H)} {pl:List MemPlace}
    (hW:DataW.Whole enc Tryz.prog f.params.toList s.vars apart W args.toList ds [] pl) (hb:Below W.heap.size W W') (hv:s.vars=[])
    (hfn:s.fn H (ds++[])={results:=[.lit (.bool true)],args:=ds,vars:=[]}) (hres:f.resultTypes=#[4])
    (hargs:∀sp:Nat→Bool,(∀p∈pl,sp p.block=true)→DataW.TrodAll enc Tryz.prog W' 0 sp true f.params.toList args.toList ds pl) :
    s.post enc Tryz.prog f apart fresh handsOn again W args (.bool true) W':=by
  have old:∀p∈pl,p.block<W.heap.size:=fun p hp=>hW.lt p hp
  have hR:∀(b:Nat) (sp:Nat→Bool) (hd:Bool),DataW.TrodAll enc Tryz.prog W' b sp hd f.resultTypes.toList ((Value.bool true).resultList f.resultTypes.size) (s.fn H (ds++[])).results []:=by
    intro b sp hd;rw[hres,hfn];exact trodAll_cons_mk (shut_bool Tryz.underlying4 _) trodAll_mk0
  have hA:∀sp:Nat→Bool,(∀p∈pl,sp p.block=true)→DataW.TrodAll enc Tryz.prog W' 0 sp true f.params.toList args.toList (s.fn H (ds++[])).args pl:=by
    intro sp h;rw[hfn];exact hargs sp h
  have hV:∀sp:Nat→Bool,DataW.TrodVars enc Tryz.prog W' sp s.vars (s.fn H (ds++[])).vars []:=by
    intro sp;rw[hfn,hv];rfl
  refine⟨ds,[],pl,[],pl,[],hW,hR _ _ _,hA _ (fun p hp=>by simpa using old p hp),hV _,World.keptBut_mono (fun p hp=>⟨hp,?_⟩) (hb.frame (· ∈ pl)),fun _=>?_⟩
  ·simpa using hp
  ·obtain⟨_,_,_,_,_,hz,hn⟩:=hW;refine⟨?_,_,_,pl++[],⟨[]++pl,[],trodAll_append (hA _ (fun _ _=>rfl)) (hR _ _ _),hV _,by simp,?_,?_⟩,?_⟩
   ·exact ok_one (by rw[hres]) rfl (okWide_bool_mk Tryz.underlying4 _)
   ·intro b off hp;have hin:MemPlace.cell b off∈pl:=by simpa using hp
    rw[hb.frozen (old _ hin)];exact hz b off hin
   ·intro ha;simpa using hn ha
   ·intro p hp _;simpa using hp
end
end Go.Proofs.YtfagdpfgifgnoaaGreatDoor
set_option linter.unusedVariables false
set_option linter.unusedSimpArgs false
set_option maxRecDepth 100000
set_option maxHeartbeats 8000000
namespace Go.Proofs.YtfagdpfgifgnoaaGreatDoor
open Go.RowKit
theorem Ge (L:List Nd) (i c:Nat) (A:Option Addr) (x:Nd) (w:World) (hL:L.length≤100000) (hx:L[i]? = some x) (hup:x.up<(L.length:Int)) (hr:Rd w w.heap.size 4 (.slice A L.length c) L.length (dt L)) :
    Gw 20 #[.slice A L.length c,.int .i64 (i:Int)] w (.bool (mq L i)):=by
  have hil:=(List.getElem?_eq_some_iff.1 hx).1;have u1:(0:Int)≤(i:Int):=by omega
  have u2:(i:Int)<(L.length:Int):=by omega
  obtain⟨T,hT⟩:∃T,T=mq L i:=⟨_,rfl⟩;rw[←hT];have hT2:T=(x.kd==3&&decide (1≤x.up)&&decide (x.up<(L.length:Int))&&sO L x):=by rw[hT];unfold mq;rw[hx]
  obtain⟨g,o,rfl,_,hc⟩:=bS de hr hx rfl;have y0:w.cell? ⟨g,o+i*4,none⟩=some (.int .i64 (x.kd:Int)):=hc 0 _ rfl;have y3:w.cell? ⟨g,o+i*4+3,none⟩=some (.int .i64 x.up):=hc 3 _ rfl;have HT:=Lib.hid hT2;clear hT hT2;by_cases h3:x.kd=3
  ·have t3:((x.kd:Int)!=3)=false:=by simp;omega
   by_cases h1:x.up<1
   ·have t1:decide (x.up<1)=true:=by simpa using h1
    have e:T=false:=by
      rw[HT.out,show decide (1≤x.up)=false by simp;omega,Bool.and_false];rfl
    subst e;clear hc hx hr;go_enter Tryz.func20,Tryz.ntmps20;go_wp2_with fail;try go_quiet (fail)
    try go_wp2_with fail
    go_ret;first|exact⟨rfl,_,rfl⟩|exact⟨rfl,0,rfl⟩
   ·have t1:decide (x.up<1)=false:=by simpa using h1
    obtain⟨u,hu⟩:∃u:Nat,x.up=(u:Int):=⟨x.up.toNat,by omega⟩;obtain⟨y,hy⟩:∃y,L[u]? = some y:=⟨_,List.getElem?_eq_getElem (by omega)⟩;have v1:(0:Int)≤(u:Int):=by omega
    have v2:(u:Int)<(L.length:Int):=by omega
    obtain⟨g',o',he,_,hc2⟩:=bS de hr hy rfl;obtain⟨rfl,rfl⟩:g=g'∧o=o':=by simpa using he
    have z0:w.cell? ⟨g,o+u*4,none⟩=some (.int .i64 (y.kd:Int)):=hc2 0 _ rfl;have z3:w.cell? ⟨g,o+u*4+3,none⟩=some (.int .i64 y.up):=hc2 3 _ rfl;have e:T=(y.kd==2&&y.up==0):=by
      rw[HT.out,h3,show decide (1≤x.up)=true by simp;omega,show decide (x.up<(L.length:Int))=true by simpa using hup];unfold sO;rw[hu,Int.toNat_natCast,hy];rfl
    have HE:=Lib.hid e;rw[hu] at y3 t1;clear hc hc2 hx hr hy he hup h1 hu e;have k2:((y.kd:Int)==2)=(y.kd==2):=by
      cases h:(y.kd==2)
      ·have:=beq_eq_false_iff_ne.1 h;rw[beq_eq_false_iff_ne];omega
      ·have:=eq_of_beq h;rw[beq_iff_eq];omega
    generalize (y.kd==2)=b2 at k2 HE
    cases b2
    case' true=>cases k0:(y.up==0)
    all_goals (
      go_enter Tryz.func20,Tryz.ntmps20;go_wp2_with fail;try go_quiet (fail)
      try go_wp2_with fail
      try go_quiet (fail)
      try go_wp2_with fail
      go_ret;rw[HE.out];first|exact⟨rfl,_,rfl⟩|exact⟨by rw[k0];rfl,_,rfl⟩|exact⟨rfl,0,rfl⟩|exact⟨by rw[k0];rfl,0,rfl⟩)
  ·have t3:((x.kd:Int)!=3)=true:=by simp;omega
   have e:T=false:=by
     rw[HT.out,show (x.kd==3)=false from beq_eq_false_iff_ne.2 h3];rfl
   subst e;clear hc hx hr;go_enter Tryz.func20,Tryz.ntmps20;go_wp2_with fail;try go_quiet (fail)
   try go_wp2_with fail
   go_ret;first|exact⟨rfl,_,rfl⟩|exact⟨rfl,0,rfl⟩
end Go.Proofs.YtfagdpfgifgnoaaGreatDoor
namespace Go.Proofs.YtfagdpfgifgnoaaGreatDoor
open Go.RowKit
set_option linter.unusedVariables false
set_option linter.unusedSimpArgs false
set_option maxRecDepth 100000
def abv (L:List Nz) (a:Nat):Nat→Nat→Bool
  | 0,_=>false
  | n+1,b=>a==b||(match L[b]? with|some x=>if 0≤x.up then abv L a n x.up.toNat else false|none=>false)
theorem abv_fuel {L:List Nz} {a N:Nat} (h:∀(j:Nat) (x:Nz),j<N→L[j]? = some x→x.up<(j:Int)):∀(n m b:Nat),b<N→b<n→b<m→abv L a n b=abv L a m b
  | 0,m,b,_,h1,_=>by omega
  | n+1,0,b,_,_,h2=>by omega
  | n+1,m+1,b,hb,h1,h2=>by
    unfold abv
    cases hx:L[b]? with
    | none=>rfl
    | some x=>
      simp only;by_cases h0:0≤x.up
      ·rw[if_pos h0,if_pos h0]
       have:=h b x hb hx
       rw[abv_fuel h n m x.up.toNat (by omega) (by omega) (by omega)]
      ·rw[if_neg h0,if_neg h0]
theorem abv_step {L:List Nz} {a N b:Nat} {x:Nz} (h:∀(j:Nat) (x:Nz),j<N→L[j]? = some x→x.up<(j:Int)) (hb:b<N) (hx:L[b]? = some x) (hab:a≠b):abv L a (b+1) b=if 0≤x.up then abv L a (x.up.toNat+1) x.up.toNat else false:=by
  have hu:=h b x hb hx;show (a==b||_)=_;rw[beq_false_of_ne hab,hx];simp only[Bool.false_or];by_cases h0:0≤x.up
  ·rw[if_pos h0,if_pos h0];exact abv_fuel h _ _ _ (by omega) (by omega) (by omega)
  ·rw[if_neg h0,if_neg h0]
set_option maxHeartbeats 2000000 in
theorem abovez_m (L:List Nz) (A:Option Addr) (c a b N:Nat) (w:World) (hl:L.length≤100000) (hrd:Rd w w.heap.size 4 (.slice A L.length c) L.length (GJ L)) (hN:N≤L.length) (hb:b<N) (h:∀(j:Nat) (x:Nz),j<N→L[j]? = some x→x.up<(j:Int) ∧ -1≤x.up) :
    Calls Tryz.prog 46 #[.slice A L.length c,.int .i64 (a:Int),.int .i64 (b:Int)] w fun e w'=>e=.returned (.bool (abv L a (b+1) b))∧w'=w:=by
  obtain⟨V,hV⟩:∃V,V=abv L a (b+1) b:=⟨_,rfl⟩;rw[←hV];have HC:=Lib.hid (And.intro hrd (And.intro h hV));clear hrd h hV;go_enter Tryz.func46,Tryz.ntmps46;go_wp2_with fail;go_loopw [2] (fun i wr=>((∃k:Nat,k<N∧i=.int .i64 k∧V=abv L a (k+1) k)∨(i=.int .i64 (-1)∧V=false))∧wr=w) (fun i _=>(intOf i+1).toNat)
  case atStart=>exact⟨.inl ⟨b,hb,rfl,HC.out.2.2⟩,rfl⟩
  case round=>
    obtain⟨hway,hw⟩:=hrel;obtain rfl:=hw;rcases hway with ⟨k,hk,rfl,hA⟩|⟨rfl,hA⟩
    ·have u2:(0:Int)≤(k:Int):=by omega
     by_cases hak:a=k
     ·subst hak;have hV:V=true:=by rw[hA];show (a==a||_)=true;rw[beq_self_eq_true];rfl
      clear hA;go_wp2_with fail;go_ret;exact⟨by first|rfl|(rw[hV];rfl),rfl⟩
     ·have t1:((a:Int)==(k:Int))=false:=beq_false_of_ne (by omega);have u1:(k:Int)<(L.length:Int):=by omega
      obtain⟨x,hx⟩:∃x,L[k]? = some x:=⟨_,List.getElem?_eq_getElem (by omega)⟩;have hx2:=HC.out.2.1 k x hk hx;rw[abv_step (fun j x h1 h2=>(HC.out.2.1 j x h1 h2).1) hk hx hak] at hA;obtain⟨g,o,rfl,_,hc⟩:=bS FV HC.out.1 hx rfl;have z3:wr.cell? ⟨g,o+k*4+3,none⟩=some (.int .i64 x.up):=hc 3 _ rfl;have HX:=Lib.hid hA;clear hc hx hA;go_wp2_with fail;refine⟨⟨?_,trivial⟩,by simp[intOf];omega⟩;by_cases h0:0≤x.up
      ·have:=HX.out
       rw[if_pos h0] at this;exact .inl ⟨x.up.toNat,by omega,by rw[Int.toNat_of_nonneg h0],this⟩
      ·have:=HX.out
       rw[if_neg h0] at this;exact .inr ⟨by rw[show x.up = -1 by omega],this⟩
    ·have t1:decide ((0:Int) ≤ -1)=false:=by decide
     go_wp2_with fail;go_ret;exact⟨by first|rfl|(rw[hA];rfl),rfl⟩
def RtN (L:List Nz) (i:Nat) (x:Nz):Prop:=1≤x.kd∧x.kd≤18∧x.fr≤x.tt∧(0<i→0≤x.up∧x.up<(i:Int)∧∃y,L[x.up.toNat]? = some y∧y.fr≤x.fr)∧(i=0→x.up = -1∧x.fr=0)
end Go.Proofs.YtfagdpfgifgnoaaGreatDoor
namespace Go.Proofs.YtfagdpfgifgnoaaGreatDoor
open Go.RowKit
set_option linter.unusedVariables false
set_option linter.unusedSimpArgs false
set_option maxRecDepth 100000
theorem RtN.lt {L:List Nz} {i:Nat} {x:Nz} (h:RtN L i x):x.up<(i:Int) ∧ -1≤x.up:=by
  obtain⟨_,_,_,h1,h2⟩:=h;rcases Nat.eq_zero_or_pos i with h0|h0
  ·have:=h2 h0;omega
  ·have:=h1 h0;omega
set_option maxHeartbeats 8000000 in
theorem rightz_m (L:List Nz) (A:Option Addr) (c:Nat) (z:Int) (w:World) (hl:L.length≤100) (hne:0<L.length) (hrd:Rd w w.heap.size 4 (.slice A L.length c) L.length (GJ L)) :
    Calls Tryz.prog 18 #[.slice A L.length c,.int .i64 z] w fun e w'=>∃b,e=.returned (.bool b)∧(b=true→∀(i:Nat) (x:Nz),L[i]? = some x→RtN L i x)∧Below w.heap.size w w':=by
  have c1:∀W (u k:Nat),Below w.heap.size w W→k<L.length→0<k→(∀(j:Nat) (x:Nz),j<k→L[j]? = some x→RtN L j x)→Calls Tryz.prog 46 #[.slice A L.length c,.int .i64 (u:Int),.int .i64 ((k-1:Nat):Int)] W fun e w'=>e=.returned (.bool (abv L u (k-1+1) (k-1)))∧w'=W:=
    fun W u k hW hk h0 h=>abovez_m L A c u (k-1) k W (by omega) ((hrd.keep hW (Nat.le_refl _)).mono hW.size) (by omega) (by omega) (fun j x hj hx=>(h j x hj hx).lt)
  have hne1:((L.length:Int)==0)=false:=beq_false_of_ne (by omega);have hne2:(0:Int)<(L.length:Int):=by omega
  obtain⟨x0,hx0⟩:∃x,L[0]? = some x:=⟨_,List.getElem?_eq_getElem hne⟩;obtain⟨g,o,rfl,hgl,hc0⟩:=bS FV hrd hx0 rfl;have y1:w.cell? ⟨g,o+1,none⟩=some (.int .i64 x0.fr):=by have:=hc0 1 _ rfl;simpa using this
  have y2:w.cell? ⟨g,o+2,none⟩=some (.int .i64 x0.tt):=by have:=hc0 2 _ rfl;simpa using this
  have y3:w.cell? ⟨g,o+3,none⟩=some (.int .i64 x0.up):=by have:=hc0 3 _ rfl;simpa using this
  have HC:=Lib.hid (And.intro c1 (And.intro hrd hx0));clear c1 hrd hc0 hx0;have key:(x0.up != -1)=true∨((x0.up != -1)=false∧(x0.fr != 0)=true)∨((x0.up != -1)=false∧(x0.fr != 0)=false∧(x0.tt != z)=true)∨((x0.up != -1)=false∧(x0.fr != 0)=false∧(x0.tt != z)=false):=by
    cases (x0.up != -1)<;>cases (x0.fr != 0)<;>cases (x0.tt != z)<;>simp
  rcases key with t1|⟨t1,t2⟩|⟨t1,t2,t3⟩|⟨t1,t2,t3⟩
  rotate_right
  ·have e1:x0.up = -1:=by simpa using t1
   have e2:x0.fr=0:=by simpa using t2
   have HE:=Lib.hid (And.intro e1 e2);clear e1 e2;go_enter Tryz.func18,Tryz.ntmps18;go_wp2_with fail;clear y1 y2 y3 t1 t2 t3;go_loopw [5] (fun i wr=>∃k:Nat,k≤L.length∧i=.int .i64 k∧Below w.heap.size w wr∧∀(j:Nat) (x:Nz),j<k→L[j]? = some x→RtN L j x) (fun i _=>L.length-(intOf i).toNat)
   case atStart=>exact⟨0,Nat.zero_le _,rfl,Below.refl _ _,fun j x hj=>by omega⟩
   case round=>
     obtain⟨k,hk,rfl,hb,hI⟩:=hrel;by_cases hlt:k<L.length
     ·have u1:(k:Int)<(L.length:Int):=by omega
      have u2:(0:Int)≤(k:Int):=by omega
      obtain⟨x,hx⟩:∃x,L[k]? = some x:=⟨_,List.getElem?_eq_getElem hlt⟩;have hR:=HC.out.2.1.keep hb (Nat.le_refl _);obtain⟨g0,o0,e0,_,hc⟩:=bS FV hR hx rfl
      cases e0;obtain⟨kd,fr,tt,up⟩:=x;have z0:wr.cell? ⟨g,o+k*4,none⟩=some (.int .i64 kd):=hc 0 _ rfl;have z1:wr.cell? ⟨g,o+k*4+1,none⟩=some (.int .i64 fr):=hc 1 _ rfl;have z2:wr.cell? ⟨g,o+k*4+2,none⟩=some (.int .i64 tt):=hc 2 _ rfl;have z3:wr.cell? ⟨g,o+k*4+3,none⟩=some (.int .i64 up):=hc 3 _ rfl;have HB:=Lib.hid (And.intro hb (And.intro hI hx));by_cases h1:kd<1
      ·have t1:decide (kd<1)=true:=decide_eq_true h1;clear hb hI hx hR hc h1;go_wp2_with fail;go_quiet (fail);go_wp2_with fail;go_ret;exact⟨false,rfl,(fun h=>by cases h),ae HB.out.1 _⟩
      have t1:decide (kd<1)=false:=decide_eq_false h1;by_cases h2:18<kd
      ·have t2:decide ((18:Int)<kd)=true:=decide_eq_true h2;clear hb hI hx hR hc h1 h2;go_wp2_with fail;go_quiet (fail);go_wp2_with fail;go_ret;exact⟨false,rfl,(fun h=>by cases h),ae HB.out.1 _⟩
      have t2:decide ((18:Int)<kd)=false:=decide_eq_false h2;by_cases h3:tt<fr
      ·have t3:decide (tt<fr)=true:=decide_eq_true h3;clear hb hI hx hR hc h1 h2 h3;go_wp2_with fail;go_quiet (fail);go_wp2_with fail;go_ret;exact⟨false,rfl,(fun h=>by cases h),ae HB.out.1 _⟩
      have t3:decide (tt<fr)=false:=decide_eq_false h3;by_cases hk0:k=0
      ·subst hk0;have hn:RtN L 0 ⟨kd,fr,tt,up⟩:=by
         rw[HC.out.2.2] at hx
         cases hx;exact⟨by show 1≤kd;omega,by show kd≤18;omega,by show fr≤tt;omega,fun h=>by omega,fun _=>HE.out⟩
       have HN:=Lib.hid hn;clear hb hI hx hR hc h1 h2 h3 hn;simp only[Nat.zero_mul,Nat.add_zero] at z0 z1 z2;go_wp2_with fail;go_quiet (fail);go_wp2_with fail;refine⟨⟨1,by omega,by go_num,ae HB.out.1 _,fun j y hj hy=>?_⟩,by simp[intOf]<;>omega⟩;obtain rfl:j=0:=by omega
       rw[HB.out.2.2] at hy
       cases hy;exact HN.out
      have t4:((k:Int)==0)=false:=beq_false_of_ne (by omega);have e1:(k:Int)-1=((k-1:Nat):Int):=by omega
      have HK:=Lib.hid (And.intro hk0 e1);by_cases h5:up<0
      ·have t5:decide (up<0)=true:=decide_eq_true h5;clear hb hI hx hR hc h1 h2 h3 h5 hk0 e1;go_wp2_with fail;go_quiet (fail);go_wp2_with fail;go_quiet (fail);go_wp2_with fail;go_ret
       first
         | exact⟨false,rfl,(fun h=>by cases h),ae HB.out.1 _⟩
         | exact⟨false,rfl,(fun h=>by cases h),ae (ae HB.out.1 _) _⟩
      have t5:decide (up<0)=false:=decide_eq_false h5;by_cases h6:(k:Int)≤up
      ·have t6:decide ((k:Int)≤up)=true:=decide_eq_true h6;clear hb hI hx hR hc h1 h2 h3 h5 h6 hk0 e1;go_wp2_with fail;go_quiet (fail);go_wp2_with fail;go_quiet (fail);go_wp2_with fail;go_ret
       first
         | exact⟨false,rfl,(fun h=>by cases h),ae HB.out.1 _⟩
         | exact⟨false,rfl,(fun h=>by cases h),ae (ae HB.out.1 _) _⟩
      obtain⟨u,rfl⟩:∃u:Nat,up=(u:Int):=⟨up.toNat,by omega⟩;have t5b:decide ((u:Int)<0)=false:=decide_eq_false (by omega);have t6:decide ((k:Int)≤(u:Int))=false:=decide_eq_false h6;have t6b:decide (k≤u)=false:=decide_eq_false (by omega);obtain⟨m,hm⟩:∃m,L[u]? = some m:=⟨_,List.getElem?_eq_getElem (by omega)⟩;obtain⟨g0,o0,e0,_,hcu⟩:=bS FV hR hm rfl
      cases e0;obtain⟨mk,mf,mtt,mu⟩:=m;have v1:wr.cell? ⟨g,o+u*4+1,none⟩=some (.int .i64 mf):=hcu 1 _ rfl;have v2:wr.cell? ⟨g,o+u*4+2,none⟩=some (.int .i64 mtt):=hcu 2 _ rfl;have u3:(0:Int)≤(u:Int):=by omega
      have u4:(u:Int)<(L.length:Int):=by omega
      have cA:=fun W (hW:Below w.heap.size w W)=>HC.out.1 W u k hW hlt (by omega) HB.out.2.1
      obtain⟨av,hav⟩:∃av,av=abv L u (k-1+1) (k-1):=⟨_,rfl⟩;rw[←hav] at cA;have HA:=Lib.hid cA;have HM:=Lib.hid hm;clear cA hav hm hcu
      cases av
      ·clear hb hI hx hR hc h1 h2 h3 h5 h6 hk0 e1;go_wp2_with fail;go_quiet (fail);go_wp2_with fail
       go_quiet (first
         | (go_at_call 46;first|rw[HK.out.2]|skip
            refine(HA.out _ (ae HB.out.1 _)).mono ?_;rintro e w' ⟨rfl,rfl⟩;exact⟨rfl,_,rfl⟩))
       go_wp2_with fail;go_ret
       first
         | exact⟨false,rfl,(fun h=>by cases h),ae HB.out.1 _⟩
         | exact⟨false,rfl,(fun h=>by cases h),ae (ae HB.out.1 _) _⟩
      by_cases h7:fr<mf
      ·have t7:decide (fr<mf)=true:=decide_eq_true h7;clear hb hI hx hR hc h1 h2 h3 h5 h6 h7 hk0 e1;go_wp2_with fail;go_quiet (fail);go_wp2_with fail
       go_quiet (first
         | (go_at_call 46;first|rw[HK.out.2]|skip
            refine(HA.out _ (ae HB.out.1 _)).mono ?_;rintro e w' ⟨rfl,rfl⟩;exact⟨rfl,_,rfl⟩))
       go_wp2_with fail;go_ret
       first
         | exact⟨false,rfl,(fun h=>by cases h),ae HB.out.1 _⟩
         | exact⟨false,rfl,(fun h=>by cases h),ae (ae HB.out.1 _) _⟩
      have t7:decide (fr<mf)=false:=decide_eq_false h7;by_cases h8:mtt<tt
      ·have t8:decide (mtt<tt)=true:=decide_eq_true h8;clear hb hI hx hR hc h1 h2 h3 h5 h6 h7 h8 hk0 e1;go_wp2_with fail;go_quiet (fail);go_wp2_with fail
       go_quiet (first
         | (go_at_call 46;first|rw[HK.out.2]|skip
            refine(HA.out _ (ae HB.out.1 _)).mono ?_;rintro e w' ⟨rfl,rfl⟩;exact⟨rfl,_,rfl⟩))
       go_wp2_with fail;go_ret
       first
         | exact⟨false,rfl,(fun h=>by cases h),ae HB.out.1 _⟩
         | exact⟨false,rfl,(fun h=>by cases h),ae (ae HB.out.1 _) _⟩
      have t8:decide (mtt<tt)=false:=decide_eq_false h8;have hn:RtN L k ⟨kd,fr,tt,(u:Int)⟩:=⟨by show 1≤kd;omega,by show kd≤18;omega,by show fr≤tt;omega,fun _=>⟨u3,by show (u:Int)<k;omega,⟨mk,mf,mtt,mu⟩,by show L[((u:Int)).toNat]? = _;rw[Int.toNat_natCast];exact HM.out,by show mf≤fr;omega⟩,fun h=>absurd h hk0⟩;have HN:=Lib.hid hn;clear hb hI hx hR hc h1 h2 h3 h5 h6 h7 h8 hk0 e1 hn;go_wp2_with fail;go_quiet (fail);go_wp2_with fail
      go_quiet (first
        | (go_at_call 46;first|rw[HK.out.2]|skip
           refine(HA.out _ (ae HB.out.1 _)).mono ?_;rintro e w' ⟨rfl,rfl⟩;exact⟨rfl,_,rfl⟩))
      go_wp2_with fail;clear z0 z1 z2 z3 v1 v2;go_loopw [7] (fun i wv=>∃j:Nat,1≤j∧j≤k∧i=.int .i64 j∧Below w.heap.size w wv) (fun i _=>k-(intOf i).toNat)
      case atStart=>exact⟨1,Nat.le_refl _,by have:=HK.out.1;omega,rfl,by first|exact ae HB.out.1 _|exact ae (ae HB.out.1 _) _⟩
      case round=>
        obtain⟨j,hj1,hj,rfl,hb⟩:=hrel;by_cases hjk:j<k
        ·have p1:(j:Int)<(k:Int):=by omega
         have p2:(0:Int)≤(j:Int):=by omega
         have p3:(j:Int)<(L.length:Int):=by omega
         obtain⟨q,hq⟩:∃q,L[j]? = some q:=⟨_,List.getElem?_eq_getElem (by omega)⟩;have hR:=HC.out.2.1.keep hb (Nat.le_refl _);obtain⟨g0,o0,e0,_,hc⟩:=bS FV hR hq rfl
         cases e0;obtain⟨g0,o0,e0,_,hcx⟩:=bS FV hR HB.out.2.2 rfl
         cases e0;obtain⟨qk,qf,qt,qu⟩:=q;have q2:=hc 2 _ rfl;have q3:=hc 3 _ rfl;have x1:=hcx 1 _ rfl;have HJ:=Lib.hid hb;clear hb hR hc hcx hq;by_cases hup:qu=(u:Int)
         ·have w1:(qu==(u:Int))=true:=by rw[hup];simp
          by_cases h9:fr<qt
          ·have w2:decide (fr<qt)=true:=decide_eq_true h9;clear h9 hup;go_wp2_with fail;go_quiet (fail);go_wp2_with fail;go_ret;exact⟨false,rfl,(fun h=>by cases h),ae HJ.out _⟩
          ·have w2:decide (fr<qt)=false:=decide_eq_false h9;clear h9 hup;go_wp2_with fail;go_quiet (fail);go_wp2_with fail;exact⟨⟨j+1,by omega,by omega,by go_num,ae HJ.out _⟩,by simp[intOf]<;>omega⟩
         ·have w1:(qu==(u:Int))=false:=beq_false_of_ne hup;clear hup;go_wp2_with fail;go_quiet (fail);go_wp2_with fail;exact⟨⟨j+1,by omega,by omega,by go_num,ae HJ.out _⟩,by simp[intOf]<;>omega⟩
        ·obtain rfl:j=k:=by omega
         have HJ:=Lib.hid hb;clear hb;go_wp2_with fail;refine⟨⟨j+1,by omega,by go_num,HJ.out,fun i y hi hy=>?_⟩,by simp[intOf]<;>omega⟩;rcases Nat.lt_or_ge i j with h|h
         ·exact HB.out.2.1 i y h hy
         ·obtain rfl:i=j:=by omega
          rw[HB.out.2.2] at hy
          cases hy;exact HN.out
     ·obtain rfl:k=L.length:=by omega
      have HB:=Lib.hid (And.intro hb hI);clear hb hI;go_wp2_with fail;go_ret;exact⟨true,rfl,fun _ i x hx=>HB.out.2 i x (List.getElem?_eq_some_iff.1 hx).1 hx,HB.out.1⟩
  all_goals (
    go_enter Tryz.func18,Tryz.ntmps18;go_wp2_with fail;go_ret;exact⟨false,rfl,(fun h=>by cases h),Below.refl _ _⟩)
end Go.Proofs.YtfagdpfgifgnoaaGreatDoor
namespace Go.Proofs.YtfagdpfgifgnoaaGreatDoor
open Go.RowKit
set_option linter.unusedVariables false
set_option linter.unusedSimpArgs false
set_option maxRecDepth 100000
theorem ndcs_nz14 (L:List Nd):dt L=GJ (L.map nz):=by
  unfold dt GJ;rw[List.flatMap_map];rfl
theorem nz_row (r:List Value) (hl:r.length=[FK.i,FK.i,FK.i,FK.i].length) (h:Qk [.i,.i,.i,.i] r):∃x:Nz,r=Gz x:=by
  obtain⟨v0,h0,a,rfl,_⟩:=h 0 .i rfl;obtain⟨v1,h1,b,rfl,_⟩:=h 1 .i rfl;obtain⟨v2,h2,c,rfl,_⟩:=h 2 .i rfl;obtain⟨v3,h3,d,rfl,_⟩:=h 3 .i rfl
  match r,hl with
  | [x,y,z,u],_=>
    simp at h0 h1 h2 h3;subst h0 h1 h2 h3;exact⟨⟨a,b,c,d⟩,rfl⟩
theorem nz_rows (rows:List (List Value)) (h:∀r∈rows,r.length=[FK.i,FK.i,FK.i,FK.i].length∧Qk [.i,.i,.i,.i] r):∃xs:List Nz,rows.flatten=GJ xs∧xs.length=rows.length:=oB Gz nz_row rows h
theorem rt_fr {L:List Nz} (h:∀(i:Nat) (x:Nz),L[i]? = some x→RtN L i x):∀(i:Nat) (x:Nz),L[i]? = some x→0≤x.fr:=by
  intro i
  induction i using Nat.strongRecOn with
  | _ i ih=>
    intro x hx;obtain⟨_,_,_,h1,h2⟩:=h i x hx;rcases Nat.eq_zero_or_pos i with h0|h0
    ·have:=h2 h0;omega
    ·obtain⟨h3,h4,y,h5,h6⟩:=h1 h0
     have:=ih _ (by omega) y h5
     omega
theorem rt_nd {L:List Nz} (h:∀(i:Nat) (x:Nz),L[i]? = some x→RtN L i x):∃M:List Nd,GJ L=dt M∧M.length=L.length∧∀(i:Nat) (x:Nd),M[i]? = some x→x.up<(i:Int):=by
  have h0:(L.map fun x=>(⟨x.kd.toNat,x.fr.toNat,x.tt.toNat,x.up⟩:Nd)).map nz=L:=by
    rw[List.map_map];conv=>rhs;rw[←List.map_id L]
    refine List.map_congr_left fun x hx=>?_
    obtain⟨i,hi⟩:=List.getElem?_of_mem hx;have h1:=rt_fr h i x hi;obtain⟨h2,_,h3,_⟩:=h i x hi;show nz ⟨x.kd.toNat,x.fr.toNat,x.tt.toNat,x.up⟩=x;obtain⟨a,b,c,d⟩:=x;simp only at h1 h2 h3;unfold nz;simp only;rw[Int.toNat_of_nonneg h1,Int.toNat_of_nonneg (by omega),Int.toNat_of_nonneg (by omega)]
  refine⟨L.map fun x=>(⟨x.kd.toNat,x.fr.toNat,x.tt.toNat,x.up⟩:Nd),?_,List.length_map _,fun i x hx=>?_⟩
  ·rw[ndcs_nz14,h0]
  ·rw[List.getElem?_map] at hx;obtain⟨y,hy,rfl⟩:=Option.map_eq_some_iff.1 hx
   exact(h i y hy).lt.1
set_option maxHeartbeats 4000000 in
theorem reparseTops_w (xs:List Nz) (A:Option Addr) (n c:Nat) (w:World) (hrd:Rd w w.heap.size 4 (.slice A n c) n (GJ xs)) (hn:n=xs.length) (hm1:n≤9223372036854775807) :
    Calls Tryz.prog 5 #[.slice A n c] w fun e w'=>e=.returned (.bool true)∧Below w.heap.size w w':=by
  subst hn;by_cases h0:xs.length=0
  ·have t1:((xs.length:Int)==0)=true:=by rw[h0];rfl
   clear hrd;go_enter Tryz.func5,Tryz.ntmps5;go_wp2_with (
     (go_at_call 7;refine(awake14_c _).mono ?_;rintro e w1 ⟨rfl,hb⟩;have H1:=Lib.hid hb;clear hb))
   go_ret;exact⟨rfl,H1.out⟩
  have t1:((xs.length:Int)==0)=false:=beq_false_of_ne (by omega);by_cases h1:(100:Int)<(xs.length:Int)
  ·clear hrd;go_enter Tryz.func5,Tryz.ntmps5;go_wp2_with (
     (go_at_call 7;refine(awake14_c _).mono ?_;rintro e w1 ⟨rfl,hb⟩;have H1:=Lib.hid hb;clear hb))
   go_ret;exact⟨rfl,H1.out⟩
  have hl:xs.length≤100:=by omega
  obtain⟨x0,hx0⟩:∃x,xs[0]? = some x:=⟨_,List.getElem?_eq_getElem (by omega)⟩;obtain⟨g,o,rfl,hgl,hc0⟩:=bS FV hrd hx0 rfl;have c1:=fun W (hW:Below w.heap.size w W) z=>rightz_m xs (some ⟨g,o,none⟩) c z W hl (by omega) ((hrd.keep hW (Nat.le_refl _)).mono hW.size)
  have hcell:∀W,Below w.heap.size w W→W.cell? ⟨g,o+2,none⟩=some (.int .i64 x0.tt):=fun W hW=>by
    obtain⟨g0,o0,e0,_,hc⟩:=bS FV (hrd.keep hW (Nat.le_refl _)) hx0 rfl
    cases e0
    have:=hc 2 _ rfl
    simpa using this
  have u0:(0:Int)<(xs.length:Int):=by omega
  have HC:=Lib.hid (And.intro c1 (And.intro hcell hrd));clear c1 hcell hrd hc0 hx0;go_enter Tryz.func5,Tryz.ntmps5
  go_wp2_with (first
    | (go_at_call 19;with_reducible refine(HM.out.1 _ H2.out).mono ?_
       rintro e w3 ⟨v,rfl,ho,hb⟩;obtain⟨A3,n3,c3,rfl⟩:=az ho;obtain rfl:=bN ho;have H3:=Lib.hid (And.intro ho (H2.out.trans (hb.mono H2.out.size)));clear ho hb)
    | (go_at_call 18;with_reducible refine(HC.out.1 _ H1.out _).mono ?_
       rintro e w2 ⟨b,rfl,hb,hbl⟩;have H2a:=Lib.hid hb;have H2:=Lib.hid (H1.out.trans (hbl.mono H1.out.size));clear hb hbl y2;by_cases hbt:b=true
       case neg=>
         obtain rfl:b=false:=by simpa using hbt
         go_wp2_with fail;go_ret;exact⟨rfl,H2.out⟩
       subst hbt;obtain⟨M,m1,m2,m3⟩:=rt_nd (H2a.out rfl);have hrM:∀W,Below w.heap.size w W→Rd W W.heap.size 4 (.slice (some ⟨g,o,none⟩) M.length c) M.length (dt M):=fun W hW=>by
         have h:=(HC.out.2.2.keep hW (Nat.le_refl _)).mono hW.size;rw[m1,←m2] at h;exact h
       have cTp:=fun W hW=>Gu M (by omega) (some ⟨g,o,none⟩) c W (hrM W hW)
       have cRt:=fun (i:Nat) (x:Nd) W hW (hx:M[i]? = some x)=>Ge M i c (some ⟨g,o,none⟩) x W (by omega) hx (by have:=m3 i x hx;have:=(List.getElem?_eq_some_iff.1 hx).1;omega) (hrM W hW)
       rw[m2] at cTp cRt;have HM:=Lib.hid (And.intro cTp (And.intro cRt (And.intro m2 m3)));clear cTp cRt hrM m1 m3 m2 H2a)
    | (go_at_call 7;refine(awake14_c _).mono ?_;rintro e w1 ⟨rfl,hb⟩;have y2:=HC.out.2.1 w1 hb;have H1:=Lib.hid hb;clear hb))
  have hpre:∀k,k<xs.length→mq M k=true→∃g3,A3=some ⟨g3,0,none⟩∧(jL M k).length<(jL M xs.length).length∧(vO (jL M xs.length))[(jL M k).length]? = some (.int .i64 (k:Int)):=fun k hk ht=>by
    have h1:jL M (k+1)<+:jL M xs.length:=zi (mq M) (by omega);have h2:jL M (k+1)=jL M k++[k]:=by
      have:=oR (mq M) k
      rw[if_pos ht] at this;exact this
    rw[h2] at h1;have h3:=h1.length_le;rw[List.length_append,List.length_singleton] at h3;obtain⟨g3,hg3⟩:=ly H3.out.1 (by omega);have h4:(jL M xs.length)[(jL M k).length]? = some k:=by
      obtain⟨r,hr⟩:=h1;rw[←hr,List.append_assoc,List.getElem?_append_right (Nat.le_refl _),Nat.sub_self];rfl
    exact⟨g3,hg3,by omega,by unfold vO;rw[List.getElem?_map,h4];rfl⟩
  have hstep:∀k,(jL M (k+1)).length=if mq M k=true then (jL M k).length+1 else (jL M k).length:=fun k=>by
    have:=oR (mq M) k
    unfold jL;rw[this];split<;>simp
  obtain⟨tk,htk⟩:∃tk:Nat→Nat,tk=fun k=>(jL M k).length:=⟨_,rfl⟩
  have htk':∀k,(jL M k).length=tk k:=fun k=>by rw[htk]
  have hb9:=zj (mq M);have hbk:∀k,tk k≤k:=fun k=>by rw[←htk'];exact hb9 k
  obtain⟨NL,hNL⟩:∃NL,NL=(jL M xs.length).length:=⟨_,rfl⟩;have HP:=Lib.hid (And.intro hpre (And.intro hstep (And.intro htk' (And.intro hbk hNL))));have h00:tk 0=0:=by rw[←htk'];rfl
  have H00:=Lib.hid h00;rw[←hNL] at H3 ⊢;clear hpre hstep htk htk' hb9 hbk hNL h00;go_loopw [4,5] (fun s4 i wr=>∃k:Nat,k≤xs.length∧i=.int .i64 k∧s4=.int .i64 (tk k:Int)∧Below w.heap.size w wr∧Below w3.heap.size w3 wr) (fun s4 i _=>xs.length-(intOf i).toNat)
  case atStart=>exact⟨0,Nat.zero_le _,rfl,by rw[H00.out];rfl,H3.out.2,Below.refl _ _⟩
  case round=>
    obtain⟨k,hk,rfl,rfl,hb,hb3⟩:=hrel;by_cases hlt:k<xs.length
    ·have u1:(k:Int)<(xs.length:Int):=by omega
     have u2:(0:Int)≤(k:Int):=by omega
     obtain⟨x,hx⟩:∃x,M[k]? = some x:=⟨_,List.getElem?_eq_getElem (by rw[HM.out.2.2.1];exact hlt)⟩;have cx:=HM.out.2.1 k x wr hb hx;have hkb:=HP.out.2.2.2.1 k;have hs:=HP.out.2.1 k;rw[HP.out.2.2.1,HP.out.2.2.1] at hs
     cases ht:mq M k
     ·rw[ht] at cx hs;rw[if_neg (by decide)] at hs;have HX:=Lib.hid (And.intro cx (And.intro hb (And.intro hb3 hs)));clear cx hb hb3 hs hx ht;go_wp2_with (
        (go_at_call 20;with_reducible refine HX.out.1.mono ?_
         rintro e w5 ⟨rfl,m,rfl⟩))
      exact⟨⟨k+1,by omega,by go_num,by rw[HX.out.2.2.2],ae HX.out.2.1 m,ae HX.out.2.2.1 m⟩,by simp[intOf]<;>omega⟩
     ·obtain⟨g3,rfl,h5,h6⟩:=HP.out.1 k hlt ht;rw[HP.out.2.2.1] at h5 h6;rw[ht] at cx hs;rw[if_pos rfl] at hs;have hown:=aN H3.out.1 hb3;have hNL:=HP.out.2.2.2.2;rw[←hNL] at h5;have c3:wr.cell? ⟨g3,tk k,none⟩=some (.int .i64 (k:Int)):=aJ hown _ _ h6;have t5:decide ((NL:Int)≤(tk k:Int))=false:=decide_eq_false (by omega);have t5b:decide (NL≤tk k)=false:=decide_eq_false (by omega);have t6:((k:Int)!=(k:Int))=false:=by simp
      have u5:(tk k:Int)<(NL:Int):=by omega
      have u6:(0:Int)≤(tk k:Int):=by omega
      have v1:IntKind.i64.wrap ((tk k:Int)+1)=(tk k:Int)+1:=IntWalk.i64_in _ (by omega);have HX:=Lib.hid (And.intro cx (And.intro hb (And.intro hb3 hs)));clear cx hb hb3 hs hx ht h5 h6 hown hNL;go_wp2_with (
        (go_at_call 20;with_reducible refine HX.out.1.mono ?_
         rintro e w5 ⟨rfl,m,rfl⟩))
      exact⟨⟨k+1,by omega,by go_num,by rw[HX.out.2.2.2];go_num,ae HX.out.2.1 m,ae HX.out.2.2.1 m⟩,by simp[intOf]<;>omega⟩
    ·obtain rfl:k=xs.length:=by omega
     have hNL:tk xs.length=NL:=by rw[←HP.out.2.2.1,HP.out.2.2.2.2]
     have HX:=Lib.hid hb;clear hb hb3;rw[hNL];clear hNL;go_wp2_with fail;go_ret;exact⟨rfl,HX.out⟩
end Go.Proofs.YtfagdpfgifgnoaaGreatDoor
