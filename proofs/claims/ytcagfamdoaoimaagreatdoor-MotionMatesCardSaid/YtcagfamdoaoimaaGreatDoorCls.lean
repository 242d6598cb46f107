/- Classes of bytes: the program's (class.Of, class.Ends) and the reference's (quillwortref04.In, Class, Ends) are one function of the byte. -/
import Derived.Test.YtcagfamdoaoimaaGreatDoorMem
import Derived.Test.YtcagfamdoaoimaaGreatDoorPl6
set_option linter.unusedVariables false
set_option linter.unusedSimpArgs false
set_option maxRecDepth 100000
set_option maxHeartbeats 8000000
namespace Go.Proofs.YtcagfamdoaoimaaGreatDoor
open Go.RowKit
variable {x:Bool} {a b:Int} (l:List UInt8) (c:UInt8) (p:UInt8→Bool) (z:Int) (i k:Nat) (w:World)
theorem sF :
    iG 120 #[.int .u8 (c.toNat:Int)] w (.int .i64 (eT c)):=by
  go_enter Tryz.func120,Tryz.ntmps120;go_wp2;all_goals go_ret
  all_goals refine⟨jN ?_,rfl⟩
  all_goals (show _=eT c)
  all_goals go_light
  all_goals try simp only[aR,az,ne_eq] at *
  all_goals unfold eT
  all_goals (repeat (first|rw[aD (by omega)]|rw[aB (by omega)]))
theorem jr :
    iG 226 #[.int .u8 (c.toNat:Int)] w (.bool (gR c)):=by
  go_enter Tryz.func226,Tryz.ntmps226;go_wp2_with (go_at_call 120;refine(sF _ _).mono ?_;rintro e w' ⟨rfl,rfl⟩);all_goals go_ret
  all_goals refine⟨jT ?_,rfl⟩
  all_goals (show _=gR c)
  all_goals go_light
  all_goals try simp only[aR,az,ne_eq] at *
  all_goals unfold gR
  all_goals (rw[bB];first|(simp_all;done)|(simp;omega)|omega)
theorem JD (l:List UInt8) (w:World) (hl:l.length≤1000000) :
    iG 64 #[.int .u8 (c.toNat:Int),.string ⟨l.toArray⟩] w (.bool (uQ c l)):=by
  go_enter Tryz.func64,Tryz.ntmps64;go_wp2;go_loop [5] (fun i=>∃k:Nat,k≤l.length∧i=.int .i64 k∧uQ c (l.take k)=false) (fun i=>l.length-(intOf i).toNat)
  case atStart=>exact⟨0,by omega,rfl,rfl⟩
  case round=>
    obtain⟨k,hk,rfl,hin⟩:=hrel;have Hin:=aa hin;clear hin;by_cases hlt:k<l.length
    ·go_wp2
     ·go_ret;simp only[lz,aR] at *;refine⟨jT ?_,trivial⟩;refine(zd c l (k+1) ?_).symm;rw[zc c l k hlt]
      have:(l[k]).toNat=c.toNat:=by omega
      simp[this]
     ·simp only[lz,az,ne_eq] at *;refine⟨⟨k+1,by omega,by go_num,?_⟩,by simp[intOf];omega⟩;rw[zc c l k hlt,Hin.out]
      have:¬(l[k]).toNat=c.toNat:=by omega
      simp[this]
    ·go_wp2;go_ret;refine⟨jT ?_,rfl⟩
     have:=Hin.out
     rw[bR (by omega)] at this;exact this.symm
theorem gK :
    iG 85 #[.int .u8 (c.toNat:Int)] w (.int .i64 (eT c)):=by
  rw[←Hg];go_enter Tryz.func85,Tryz.ntmps85;go_wp2_with (go_at_call 64;refine(JD c _ _ (by decide)).mono ?_;rintro e w' ⟨rfl,rfl⟩);all_goals go_ret
  all_goals refine⟨jN ?_,by first|rfl|trivial⟩
  all_goals (show _=CG c)
  all_goals go_light
  all_goals try simp only[aR,az,ne_eq] at *
  all_goals unfold CG Gg Cp yW Cq
  all_goals (repeat (first|rw[aD (by first|omega|assumption)]|rw[aB (by first|omega|simp[*])]))
theorem BN (p:UInt8→Bool):∀(l:List UInt8) (k:Nat),k<(l.takeWhile p).length→∃c,l[k]? = some c∧p c=true
  | [],k,h=>by simp at h
  | c::l,k,h=>by
    by_cases hc:p c=true
    ·rw[dB hc] at h
     cases k with
     | zero=>exact⟨c,rfl,hc⟩
     | succ k=>simpa using BN p l k (by simpa using h)
    ·rw[dC hc] at h;simp at h
theorem BO (p:UInt8→Bool):∀(l:List UInt8) (c:UInt8),l[(l.takeWhile p).length]? = some c→p c=false
  | [],c,h=>by simp at h
  | d::l,c,h=>by
    by_cases hd:p d=true
    ·rw[dB hd] at h;exact BO p l c (by simpa using h)
    ·rw[dC hd] at h;simp at h;subst h;simpa using hd
def J2 (q:fh) (t:Int):fh:={q with to:=t,op:=false}
def fN (p:UInt8→Bool) (l:List UInt8) (i:Nat):Nat:=((l.drop i).takeWhile p).length
theorem iJ (l:List UInt8) (i:Nat):fN p l i≤l.length-i:=by
  unfold fN;have h1:((l.drop i).takeWhile p).length≤(l.drop i).length:=(List.takeWhile_prefix p).length_le;simpa using h1
theorem ue:iG 218 #[.int .u8 (c.toNat:Int)] w (.bool (jm c)):=by
  go_enter Tryz.func218,Tryz.ntmps218;go_wp2_with (go_at_call 120;refine(sF c _).mono ?_;rintro e w' ⟨rfl,rfl⟩);go_ret;exact⟨rfl,rfl⟩
theorem xe:iG 220 #[.int .u8 (c.toNat:Int)] w (.bool (gz c)):=by
  go_enter Tryz.func220,Tryz.ntmps220;go_wp2_with (go_at_call 120;refine(sF c _).mono ?_;rintro e w' ⟨rfl,rfl⟩);go_ret;exact⟨rfl,rfl⟩
theorem Cj:iG 219 #[.int .u8 (c.toNat:Int)] w (.bool (iD c)):=by
  cases hl:jm c;all_goals (
    have HL:=aa hl;clear hl;go_enter Tryz.func219,Tryz.ntmps219
    go_wp2_with (first
      | (go_at_call 218;refine(ue c _).mono ?_;rintro e w' ⟨rfl,rfl⟩;rw[HL.out])
      | (go_at_call 220;refine(xe c _).mono ?_;rintro e w' ⟨rfl,rfl⟩))
    go_ret;exact⟨jT (by unfold iD;rw[HL.out];rfl),rfl⟩)
theorem xQ (hi:i≤100000) (hl:l.length≤100000) :
    iG 217 #[.string ⟨l.toArray⟩,.int .i64 (i:Int),.func (.func 218) #[] #[]] w (.int .i64 (fN jm l i:Int)):=by
  have k0:decide ((i:Int)<0)=false:=by simp
  by_cases hil:l.length≤i
  ·have k1:decide ((l.length:Int)≤(i:Int))=true:=by simp;omega
   have e:fN jm l i=0:=by have:=iJ jm l i;omega
   rw[e];clear e;go_enter Tryz.func217,Tryz.ntmps217;go_wp2;go_step3;go_wp2;try rw[bC]
   go_ret;exact⟨rfl,rfl⟩
  ·have k1:decide ((l.length:Int)≤(i:Int))=false:=by simp;omega
   have hsl:=iJ jm l i;have hlt:∀k,k<fN jm l i→∃c,l[i+k]? = some c∧jm c=true:=fun k hk=>by
     have:=BN jm (l.drop i) k hk
     simpa [cy] using this
   have hat:∀c,l[i+fN jm l i]? = some c→jm c=false:=fun c hc=>BO jm (l.drop i) c (by rw[cy];exact hc)
   generalize hm:fN jm l i=m at *;have H:=aa (ac hlt hat);clear hlt hat hm;go_enter Tryz.func217,Tryz.ntmps217;go_wp2;go_step3;go_wp2;go_step3;go_wp2;go_loop [7] (fun n=>∃k:Nat,k≤m∧n=.int .i64 k) (fun n=>m-(intOf n).toNat)
   case atStart=>exact⟨0,by omega,rfl⟩
   case round=>
     obtain⟨k,hk,rfl⟩:=hrel;by_cases hkm:k<m
     ·obtain⟨c,hc,hp⟩:=H.out.1 k hkm;obtain⟨hb1,hb2⟩:=ay.1 hc;have hSj2:(ByteArray.mk l.toArray)[i+k]'(show i+k<l.length from hb1)=c:=hb2;have k2:(i:Int)+(k:Int)<(l.length:Int):=by omega
      have k3:(0:Int)≤(i:Int)+(k:Int):=by omega
      have k4:((i:Int)+(k:Int)).toNat=i+k:=by omega
      have HP:=aa hp;clear hc hb2 hp;go_wp2_with (go_at_call 218;refine(ue c _).mono ?_;rintro e w' ⟨rfl,rfl⟩;rw[HP.out]);exact⟨⟨k+1,by omega,by go_num⟩,by simp[intOf];omega⟩
     ·obtain rfl:k=m:=by omega
      by_cases hend:i+k=l.length
      ·have k2:¬(i:Int)+(k:Int)<(l.length:Int):=by omega
       go_wp2;try rw[bC]
       go_ret;exact⟨rfl,rfl⟩
      ·obtain⟨c,hc⟩:∃c,l[i+k]? = some c:=⟨_,ax (by omega)⟩;have hp:=H.out.2 c hc;obtain⟨hb1,hb2⟩:=ay.1 hc;have hSj2:(ByteArray.mk l.toArray)[i+k]'(show i+k<l.length from hb1)=c:=hb2;have k2:(i:Int)+(k:Int)<(l.length:Int):=by omega
       have k3:(0:Int)≤(i:Int)+(k:Int):=by omega
       have k4:((i:Int)+(k:Int)).toNat=i+k:=by omega
       have HP:=aa hp;clear hc hb2 hp;go_wp2_with (go_at_call 218;refine(ue c _).mono ?_;rintro e w' ⟨rfl,rfl⟩;rw[HP.out]);try rw[bC]
       go_ret;exact⟨rfl,rfl⟩
theorem Eu (hi:i≤100000) (hl:l.length≤100000) :
    iG 217 #[.string ⟨l.toArray⟩,.int .i64 (i:Int),.func (.func 219) #[] #[]] w (.int .i64 (fN iD l i:Int)):=by
  have k0:decide ((i:Int)<0)=false:=by simp
  by_cases hil:l.length≤i
  ·have k1:decide ((l.length:Int)≤(i:Int))=true:=by simp;omega
   have e:fN iD l i=0:=by have:=iJ iD l i;omega
   rw[e];clear e;go_enter Tryz.func217,Tryz.ntmps217;go_wp2;go_step3;go_wp2;try rw[bC]
   go_ret;exact⟨rfl,rfl⟩
  ·have k1:decide ((l.length:Int)≤(i:Int))=false:=by simp;omega
   have hsl:=iJ iD l i;have hlt:∀k,k<fN iD l i→∃c,l[i+k]? = some c∧iD c=true:=fun k hk=>by
     have:=BN iD (l.drop i) k hk
     simpa [cy] using this
   have hat:∀c,l[i+fN iD l i]? = some c→iD c=false:=fun c hc=>BO iD (l.drop i) c (by rw[cy];exact hc)
   generalize hm:fN iD l i=m at *;have H:=aa (ac hlt hat);clear hlt hat hm;go_enter Tryz.func217,Tryz.ntmps217;go_wp2;go_step3;go_wp2;go_step3;go_wp2;go_loop [7] (fun n=>∃k:Nat,k≤m∧n=.int .i64 k) (fun n=>m-(intOf n).toNat)
   case atStart=>exact⟨0,by omega,rfl⟩
   case round=>
     obtain⟨k,hk,rfl⟩:=hrel;by_cases hkm:k<m
     ·obtain⟨c,hc,hp⟩:=H.out.1 k hkm;obtain⟨hb1,hb2⟩:=ay.1 hc;have hSj2:(ByteArray.mk l.toArray)[i+k]'(show i+k<l.length from hb1)=c:=hb2;have k2:(i:Int)+(k:Int)<(l.length:Int):=by omega
      have k3:(0:Int)≤(i:Int)+(k:Int):=by omega
      have k4:((i:Int)+(k:Int)).toNat=i+k:=by omega
      have HP:=aa hp;clear hc hb2 hp;go_wp2_with (go_at_call 219;refine(Cj c _).mono ?_;rintro e w' ⟨rfl,rfl⟩;rw[HP.out]);exact⟨⟨k+1,by omega,by go_num⟩,by simp[intOf];omega⟩
     ·obtain rfl:k=m:=by omega
      by_cases hend:i+k=l.length
      ·have k2:¬(i:Int)+(k:Int)<(l.length:Int):=by omega
       go_wp2;try rw[bC]
       go_ret;exact⟨rfl,rfl⟩
      ·obtain⟨c,hc⟩:∃c,l[i+k]? = some c:=⟨_,ax (by omega)⟩;have hp:=H.out.2 c hc;obtain⟨hb1,hb2⟩:=ay.1 hc;have hSj2:(ByteArray.mk l.toArray)[i+k]'(show i+k<l.length from hb1)=c:=hb2;have k2:(i:Int)+(k:Int)<(l.length:Int):=by omega
       have k3:(0:Int)≤(i:Int)+(k:Int):=by omega
       have k4:((i:Int)+(k:Int)).toNat=i+k:=by omega
       have HP:=aa hp;clear hc hb2 hp;go_wp2_with (go_at_call 219;refine(Cj c _).mono ?_;rintro e w' ⟨rfl,rfl⟩;rw[HP.out]);try rw[bC]
       go_ret;exact⟨rfl,rfl⟩
theorem Ev (hi:i≤100000) (hl:l.length≤100000) :
    iG 217 #[.string ⟨l.toArray⟩,.int .i64 (i:Int),.func (.func 220) #[] #[]] w (.int .i64 (fN gz l i:Int)):=by
  have k0:decide ((i:Int)<0)=false:=by simp
  by_cases hil:l.length≤i
  ·have k1:decide ((l.length:Int)≤(i:Int))=true:=by simp;omega
   have e:fN gz l i=0:=by have:=iJ gz l i;omega
   rw[e];clear e;go_enter Tryz.func217,Tryz.ntmps217;go_wp2;go_step3;go_wp2;try rw[bC]
   go_ret;exact⟨rfl,rfl⟩
  ·have k1:decide ((l.length:Int)≤(i:Int))=false:=by simp;omega
   have hsl:=iJ gz l i;have hlt:∀k,k<fN gz l i→∃c,l[i+k]? = some c∧gz c=true:=fun k hk=>by
     have:=BN gz (l.drop i) k hk
     simpa [cy] using this
   have hat:∀c,l[i+fN gz l i]? = some c→gz c=false:=fun c hc=>BO gz (l.drop i) c (by rw[cy];exact hc)
   generalize hm:fN gz l i=m at *;have H:=aa (ac hlt hat);clear hlt hat hm;go_enter Tryz.func217,Tryz.ntmps217;go_wp2;go_step3;go_wp2;go_step3;go_wp2;go_loop [7] (fun n=>∃k:Nat,k≤m∧n=.int .i64 k) (fun n=>m-(intOf n).toNat)
   case atStart=>exact⟨0,by omega,rfl⟩
   case round=>
     obtain⟨k,hk,rfl⟩:=hrel;by_cases hkm:k<m
     ·obtain⟨c,hc,hp⟩:=H.out.1 k hkm;obtain⟨hb1,hb2⟩:=ay.1 hc;have hSj2:(ByteArray.mk l.toArray)[i+k]'(show i+k<l.length from hb1)=c:=hb2;have k2:(i:Int)+(k:Int)<(l.length:Int):=by omega
      have k3:(0:Int)≤(i:Int)+(k:Int):=by omega
      have k4:((i:Int)+(k:Int)).toNat=i+k:=by omega
      have HP:=aa hp;clear hc hb2 hp;go_wp2_with (go_at_call 220;refine(xe c _).mono ?_;rintro e w' ⟨rfl,rfl⟩;rw[HP.out]);exact⟨⟨k+1,by omega,by go_num⟩,by simp[intOf];omega⟩
     ·obtain rfl:k=m:=by omega
      by_cases hend:i+k=l.length
      ·have k2:¬(i:Int)+(k:Int)<(l.length:Int):=by omega
       go_wp2;try rw[bC]
       go_ret;exact⟨rfl,rfl⟩
      ·obtain⟨c,hc⟩:∃c,l[i+k]? = some c:=⟨_,ax (by omega)⟩;have hp:=H.out.2 c hc;obtain⟨hb1,hb2⟩:=ay.1 hc;have hSj2:(ByteArray.mk l.toArray)[i+k]'(show i+k<l.length from hb1)=c:=hb2;have k2:(i:Int)+(k:Int)<(l.length:Int):=by omega
       have k3:(0:Int)≤(i:Int)+(k:Int):=by omega
       have k4:((i:Int)+(k:Int)).toNat=i+k:=by omega
       have HP:=aa hp;clear hc hb2 hp;go_wp2_with (go_at_call 220;refine(xe c _).mono ?_;rintro e w' ⟨rfl,rfl⟩;rw[HP.out]);try rw[bC]
       go_ret;exact⟨rfl,rfl⟩
def se (l:List UInt8) (i:Nat):Nat:=if fN jm l i=0 then 0 else fN iD l i
theorem vj (l:List UInt8) (i:Nat):fN p l i=0↔∀c,l[i]? = some c→p c=false:=by
  unfold fN;have e:(l.drop i)[0]? = l[i]? := by rw[cy];rfl
  rw[←e]
  cases h:l.drop i with
  | nil=>simp
  | cons d m=>
    by_cases hd:p d=true
    ·simp[dB hd,hd]
    ·simp[dC hd,hd]
theorem tZ:se l i=oG (l.drop i):=by
  unfold se oG;have e:(l.drop i)[0]? = l[i]? := by rw[cy];rfl
  by_cases h:fN jm l i=0
  ·rw[aD h];rw[vj] at h;rw[←e] at h
   cases hd:l.drop i with
   | nil=>rfl
   | cons d m=>
     rw[hd] at h;simp only;rw[aB (by rw[h d rfl];simp)]
  ·rw[aB h];unfold fN at h ⊢
   cases hd:l.drop i with
   | nil=>rw[hd] at h;simp at h
   | cons d m=>
     rw[hd] at h;have hl:jm d=true:=by
       by_cases hc:jm d=true
       ·exact hc
       ·rw[dC hc] at h;simp at h
     simp only;rw[aD hl]
theorem tY:se l i≤l.length-i:=by
  unfold se;split
  ·omega
  ·exact iJ _ _ _
theorem wK:pn l i=if 0<se l i then se l i else match l[i]? with
    | none=>0
    | some c=>if sE c=true∨gz c=true then 1 else 0:=by
  unfold pn yA;rw[tZ];have e:(l.drop i)[0]? = l[i]? := by rw[cy];rfl
  rw[←e]
  cases l.drop i<;>rfl
theorem wJ:pn l i≤l.length-i:=by
  rw[wK];split
  ·exact tY _ _
  ·cases h:l[i]? with
   | none=>simp
   | some c=>
     have:=(ay.1 h).1
     simp only;split<;>omega
theorem pD (hi:i≤100000) (hl:l.length≤100000) :
    iG 186 #[.string ⟨l.toArray⟩,.int .i64 (i:Int)] w (.int .i64 (se l i:Int)):=by
  unfold se;by_cases h0:fN jm l i=0
  ·rw[aD h0];have k0:((fN jm l i:Int)==0)=true:=by simp[h0]
   clear h0;go_enter Tryz.func186,Tryz.ntmps186;go_wp2_with (go_at_call 217;with_reducible refine(xQ l i _ hi hl).mono ?_;rintro e w' ⟨rfl,rfl⟩);go_ret;exact⟨rfl,rfl⟩
  ·rw[aB h0];have k0:((fN jm l i:Int)==0)=false:=by simp[h0]
   clear h0;go_enter Tryz.func186,Tryz.ntmps186
   go_wp2_with (first
     | (go_at_call 217;with_reducible refine(xQ l i _ hi hl).mono ?_;rintro e w' ⟨rfl,rfl⟩)
     | (go_at_call 217;with_reducible refine(Eu l i _ hi hl).mono ?_;rintro e w' ⟨rfl,rfl⟩))
   go_ret;exact⟨rfl,rfl⟩
theorem mw (hi:i≤100000) (hl:l.length≤100000) :
    iG 187 #[.string ⟨l.toArray⟩,.int .i64 (i:Int)] w (.int .i64 (fN gz l i:Int)):=by
  go_enter Tryz.func187,Tryz.ntmps187;go_wp2_with (go_at_call 217;with_reducible refine(Ev l i _ hi hl).mono ?_;rintro e w' ⟨rfl,rfl⟩);go_ret;exact⟨rfl,rfl⟩
theorem K3 (h:sE c=true):c=64∨c=42∨c=35∨c=63∨c=45∨c=36∨c=33:=by
  have:=fg (fun c => !sE c||(c==64||c==42||c==35||c==63||c==45||c==36||c==33)) (by decide +kernel) c
  simpa [h,or_assoc] using this
theorem IH (h:sE c=false):((c.toNat:Int)==64)=false∧((c.toNat:Int)==42)=false∧((c.toNat:Int)==35)=false∧((c.toNat:Int)==63)=false∧((c.toNat:Int)==45)=false∧((c.toNat:Int)==36)=false∧((c.toNat:Int)==33)=false:=by
  have:=fg (fun c=>sE c||(((c.toNat:Int)==64)==false&&((c.toNat:Int)==42)==false&&((c.toNat:Int)==35)==false&&((c.toNat:Int)==63)==false&&((c.toNat:Int)==45)==false&&((c.toNat:Int)==36)==false&&((c.toNat:Int)==33)==false)) (by decide +kernel) c
  simpa [h,and_assoc] using this
theorem Ji (hi:i≤100000) (hl:l.length≤100000) :
    iG 148 #[.string ⟨l.toArray⟩,.int .i64 (i:Int)] w (.int .i64 (pn l i:Int)):=by
  have e:=wK l i;have k0:decide ((i:Int)<0)=false:=by simp
  by_cases h0:0<se l i
  ·rw[aD h0] at e;rw[e];have k1:decide ((0:Int)<(se l i:Int))=true:=by simp;omega
   clear e;go_enter Tryz.func148,Tryz.ntmps148;go_wp2_with (go_at_call 186;with_reducible refine(pD l i _ hi hl).mono ?_;rintro e w' ⟨rfl,rfl⟩);go_ret;exact⟨rfl,rfl⟩
  ·rw[aB h0] at e;have k1:decide ((0:Int)<(se l i:Int))=false:=by simp;omega
   by_cases hil:l.length≤i
   ·rw[bY hil] at e;rw[e];have k2:decide ((l.length:Int)≤(i:Int))=true:=by simp;omega
    clear e;go_enter Tryz.func148,Tryz.ntmps148;go_wp2_with (go_at_call 186;with_reducible refine(pD l i _ hi hl).mono ?_;rintro e w' ⟨rfl,rfl⟩);go_ret;exact⟨rfl,rfl⟩
   ·obtain⟨c,hc⟩:∃c,l[i]? = some c:=⟨_,ax (by omega)⟩;rw[hc] at e;simp only at e;have hd:=vj gz l i;rw[hc] at hd;obtain⟨hb1,hb2⟩:=ay.1 hc;have k2:decide ((l.length:Int)≤(i:Int))=false:=by simp;omega
    have k3:(i:Int)<(l.length:Int):=by omega
    have k4:(0:Int)≤(i:Int):=by omega
    have hSj2:(ByteArray.mk l.toArray)[i]'(show i<l.length from hb1)=c:=hb2;clear hc hb2;by_cases hs:sE c=true
    ·rw[aD (.inl hs)] at e;rw[e];clear e hd;rcases K3 c hs with rfl|rfl|rfl|rfl|rfl|rfl|rfl
     all_goals (
       clear hs;go_enter Tryz.func148,Tryz.ntmps148;go_wp2_with (go_at_call 186;with_reducible refine(pD l i _ hi hl).mono ?_;rintro e w' ⟨rfl,rfl⟩);go_ret;exact⟨rfl,rfl⟩)
    ·have hs':sE c=false:=by simpa using hs
     obtain⟨s1,s2,s3,s4,s5,s6,s7⟩:=IH c hs';by_cases hg:gz c=true
     ·rw[aD (.inr hg)] at e;have hn:fN gz l i≠0:=fun h=>by have:=hd.1 h c rfl;rw[hg] at this;cases this
      have k5:decide ((1:Int)≤(fN gz l i:Int))=true:=by simp;omega
      have k6:min (fN gz l i:Int) 1=1:=by omega
      rw[e];have HX:=aa hn;clear e hd hs hs' hg hn k6;go_enter Tryz.func148,Tryz.ntmps148
      go_wp2_with (first
        | (go_at_call 186;with_reducible refine(pD l i _ hi hl).mono ?_;rintro e w' ⟨rfl,rfl⟩)
        | (go_at_call 187;with_reducible refine(mw l i _ hi hl).mono ?_;rintro e w' ⟨rfl,rfl⟩))
      all_goals (
        go_ret;exact⟨jN (by have:=HX.out;first|rfl|omega),rfl⟩)
     ·rw[aB (fun h=>by rcases h with h|h;exact hs h;exact hg h)] at e;have hn:fN gz l i=0:=hd.2 (fun d hd'=>by cases hd';simpa using hg);have hz:=aa hn;rw[e];clear hd hs hs' hg hn;go_enter Tryz.func148,Tryz.ntmps148
      go_wp2_with (first
        | (go_at_call 186;with_reducible refine(pD l i _ hi hl).mono ?_;rintro e w' ⟨rfl,rfl⟩)
        | (go_at_call 187;with_reducible refine(mw l i _ hi hl).mono ?_;rintro e w' ⟨rfl,rfl⟩;rw[hz.out]))
      go_ret;exact⟨rfl,rfl⟩
theorem Jj (h0:0≤z) (h1:z≤100000) (hl:l.length≤100000) :
    iG 148 #[.string ⟨l.toArray⟩,.int .i64 z] w (.int .i64 (pn l z.toNat:Int)):=by
  obtain⟨i,rfl⟩:=Int.eq_ofNat_of_zero_le h0;exact Ji l i w (by omega) hl
def jo (l:List UInt8):Bool:=match l with
  | []=>false
  | c::r=>jm c&&r.all iD
theorem rR (h:(a==b)=x):(a != b) = !x:=by rw[←h];rfl
theorem qJ (hl:l.length≤100000) :
    iG 158 #[.string ⟨l.toArray⟩] w (.bool (jo l)):=by
  cases l with
  | nil=>
    go_enter Tryz.func158,Tryz.ntmps158;go_wp2;go_ret;exact⟨rfl,rfl⟩
  | cons c r=>
    obtain⟨m,hm⟩:∃m:List UInt8,m=c::r:=⟨_,rfl⟩;have hlen:m.length=r.length+1:=by rw[hm];rfl
    have hl0:((m.length:Int)==0)=false:=by rw[az];omega
    have hl1:(0:Int)<(m.length:Int):=by omega
    have hl2:0<m.length:=by omega
    have hb0:∃h:0<(ByteArray.mk m.toArray).size,(ByteArray.mk m.toArray)[0]'h=c:=⟨hl2,by subst hm;rfl⟩;obtain⟨hb1,hb2⟩:=hb0;have hat:∀k,m[k+1]? = r[k]? := by intro k;subst hm;rfl
    have hres:jo (c::r)=(jm c&&r.all iD):=rfl;rw[hres,←hm];have hl':m.length≤100000:=by rw[hm];exact hl
    have HA:=aa hat;clear hat hl hres;by_cases hc:jm c=true
    ·have hc5:(eT c==5)=true:=hc;have hn5:(eT c != 5)=false:=rR hc5;rw[hc,cK];clear hm hc;have HLE:=aa hlen;clear hlen;go_enter Tryz.func158,Tryz.ntmps158;go_wp2_with (go_at_call 85;refine(gK c _).mono ?_;rintro e w' ⟨rfl,rfl⟩);go_loop [3] (fun i=>∃k:Nat,k≤r.length∧i=.int .i64 ((k:Int)+1)∧(r.take k).all iD=true) (fun i=>r.length+1-(intOf i).toNat)
     case atStart=>exact⟨0,by omega,rfl,rfl⟩
     case round=>
       obtain⟨k,hk,rfl,hp⟩:=hrel;have HP:=aa hp;clear hp;by_cases hlt:k<r.length
       ·obtain⟨d,hd⟩:∃d,r[k]? = some d:=⟨_,ax hlt⟩;have hdm:m[k+1]? = some d:=by rw[HA.out,hd]
        obtain⟨g1,g2⟩:=ay.1 hdm;have g3:(ByteArray.mk m.toArray)[k+1]'(show k+1<m.length from g1)=d:=g2;have k1:(k:Int)+1<(m.length:Int):=by omega
        have k2:(0:Int)≤(k:Int)+1:=by omega
        have k3:((k:Int)+1).toNat=k+1:=by omega
        have HD:=aa hd;clear g2 hd hdm
        cases hx:jm d
        ·have q1:(eT d==5)=false:=hx;have q2:(eT d != 5)=true:=rR q1
         cases hy:gz d
         ·have q3:(eT d==6)=false:=hy;have q4:(eT d != 6)=true:=rR q3;have HX:=aa (ac hx hy);clear hx hy;go_wp2_with (go_at_call 85;refine(gK d _).mono ?_;rintro e w' ⟨rfl,rfl⟩);go_ret;refine⟨jT ?_,rfl⟩
          symm
          rw[List.all_eq_false];exact⟨d,aO HD.out,by simp[iD,HX.out.1,HX.out.2]⟩
         ·have q3:(eT d==6)=true:=hy;have q4:(eT d != 6)=false:=rR q3;have HX:=aa (ac hx hy);clear hx hy;go_wp2_with (go_at_call 85;refine(gK d _).mono ?_;rintro e w' ⟨rfl,rfl⟩);refine⟨⟨k+1,by omega,by go_num,?_⟩,by simp[intOf];omega⟩;obtain⟨t1,t2⟩:=ay.1 HD.out;rw[bM t1,t2,List.all_append,HP.out];simp[iD,HX.out.1,HX.out.2]
        ·have q1:(eT d==5)=true:=hx;have q2:(eT d != 5)=false:=rR q1;have HX:=aa hx;clear hx;go_wp2_with (go_at_call 85;refine(gK d _).mono ?_;rintro e w' ⟨rfl,rfl⟩);refine⟨⟨k+1,by omega,by go_num,?_⟩,by simp[intOf];omega⟩;obtain⟨t1,t2⟩:=ay.1 HD.out;rw[bM t1,t2,List.all_append,HP.out];simp[iD,HX.out]
       ·have k1:¬(k:Int)+1<(m.length:Int):=by have:=HLE.out;omega
        go_wp2;go_ret;refine⟨jT ?_,rfl⟩
        have:=HP.out
        rw[bR (by omega)] at this;exact this.symm
    ·have hc':jm c=false:=by simpa using hc
     have hc5:(eT c==5)=false:=hc';have hn5:(eT c != 5)=true:=rR hc5;rw[hc',dF];clear hm hc hc';go_enter Tryz.func158,Tryz.ntmps158;go_wp2_with (go_at_call 85;refine(gK c _).mono ?_;rintro e w' ⟨rfl,rfl⟩);go_ret;exact⟨rfl,rfl⟩
theorem zP {p:UInt8→Bool}:∀(l:List UInt8) (k:Nat),k≤l.length→((l.take k).all p=true↔k≤(l.takeWhile p).length)
  | [],k,h=>by simp at h;subst h;simp
  | c::l,0,_=>by simp
  | c::l,k+1,h=>by
    by_cases hc:p c=true
    ·rw[dB hc,cF,List.all_cons,hc,cK,zP l k (by simpa using h)];simp
    ·rw[dC hc,cF,List.all_cons];simp[hc]
theorem kg (h1:1≤k) (hk:k≤l.length):jo (l.take k)=decide (k≤oG l):=by
  cases l with
  | nil=>simp at hk;omega
  | cons c r=>
    obtain⟨k,rfl⟩:∃k',k=k'+1:=⟨k-1,by omega⟩;rw[cF];unfold jo oG;by_cases hc:jm c=true
    ·have hn:iD c=true:=by simp[iD,hc]
     simp only[hc,cK,bQ];rw[dB hn,bB,zP r k (by simpa using hk)];simp
    ·simp[hc]
theorem sO (hi:i≤l.length) (hl:l.length≤100000) :
    iG 130 #[.string ⟨l.toArray⟩,.int .i64 (i:Int)] w (.int .i64 (se l i:Int)):=by
  have hle:=tY l i;have hkey:∀k,1≤k→i+k≤l.length→jo ((l.drop i).take k)=decide (k≤se l i):=fun k h1 h2=>by
    rw[tZ];exact kg _ k h1 (by simp;omega)
  generalize se l i=N at *;have HK:=aa hkey;clear hkey;go_enter Tryz.func130,Tryz.ntmps130;go_wp2;go_loop [5,6] (fun n k=>∃j:Nat,i+j≤l.length∧k=.int .i64 ((j:Int)+1)∧n=.int .i64 ((min j N:Nat):Int)) (fun _ k=>l.length+1-(intOf k).toNat)
  case atStart=>exact⟨0,by omega,rfl,by simp⟩
  case round=>
    obtain⟨j,hj,rfl,rfl⟩:=hrel;by_cases hlt:i+(j+1)≤l.length
    ·have k1:decide ((j:Int)+1≤(l.length:Int)-(i:Int))=true:=by simp;omega
     have k2:(i:Int)+((j:Int)+1)≤(l.length:Int):=by omega
     have k3:(0:Int)≤(i:Int)+((j:Int)+1):=by omega
     have k4:((i:Int)+((j:Int)+1)).toNat=i+(j+1):=by omega
     have k5:(i:Int)≤(i:Int)+((j:Int)+1):=by omega
     have hx:=HK.out (j+1) (by omega) hlt;have he:(ByteArray.mk l.toArray).extract i (i+(j+1))=⟨((l.drop i).take (j+1)).toArray⟩:=by
       rw[dX,←List.take_drop]
     by_cases hN:j+1≤N
     ·have hx':jo ((l.drop i).take (j+1))=true:=by rw[hx];simpa using hN
      have HX:=aa (ac hx' he);clear hx hx' he;go_wp2_with (go_at_call 158;rw[HX.out.2];refine(qJ _ _ (by simp;omega)).mono ?_;rintro e w' ⟨rfl,rfl⟩;rw[HX.out.1]);exact⟨⟨j+1,by omega,by go_num,by rw[show min (j+1) N=j+1 by omega];go_num⟩,by simp[intOf];omega⟩
     ·have hx':jo ((l.drop i).take (j+1))=false:=by rw[hx];simpa using hN
      have HX:=aa (ac hx' he);clear hx hx' he;go_wp2_with (go_at_call 158;rw[HX.out.2];refine(qJ _ _ (by simp;omega)).mono ?_;rintro e w' ⟨rfl,rfl⟩;rw[HX.out.1]);exact⟨⟨j+1,by omega,by go_num,by rw[show min (j+1) N=min j N by omega]⟩,by simp[intOf];omega⟩
    ·have k1:decide ((j:Int)+1≤(l.length:Int)-(i:Int))=false:=by simp;omega
     go_wp2;go_ret;exact⟨jN (by congr 1;omega),rfl⟩
theorem K4:uQ c [64,42,35,63,45,36,33]=sE c:=by
  have:=fg (fun c=>uQ c [64,42,35,63,45,36,33]==sE c) (by decide +kernel) c
  simpa using this
theorem IU :
    iG 64 #[.int .u8 (c.toNat:Int),.string ⟨#[64,42,35,63,45,36,33]⟩] w (.bool (sE c)):=by
  rw[←K4];exact JD c [64,42,35,63,45,36,33] w (by decide)
theorem EK (hi:i≤l.length) (hl:l.length≤100000) :
    iG 95 #[.string ⟨l.toArray⟩,.int .i64 (i:Int)] w (.int .i64 (pn l i:Int)):=by
  have e:=wK l i;by_cases h0:0<se l i
  ·rw[aD h0] at e;rw[e];have k1:((se l i:Int)==0)=false:=by rw[az];omega
   clear e;go_enter Tryz.func95,Tryz.ntmps95;go_wp2_with (go_at_call 130;with_reducible refine(sO l i _ hi hl).mono ?_;rintro e w' ⟨rfl,rfl⟩);go_ret;exact⟨rfl,rfl⟩
  ·rw[aB h0] at e;have hz:se l i=0:=by omega
   have HZ:=aa hz;clear hz h0;by_cases hil:l.length≤i
   ·rw[bY hil] at e;rw[e];have k2:¬i<l.length:=by omega
    clear e;go_enter Tryz.func95,Tryz.ntmps95;go_wp2_with (go_at_call 130;with_reducible refine(sO l i _ hi hl).mono ?_;rintro e w' ⟨rfl,rfl⟩;rw[HZ.out]);go_ret;exact⟨rfl,rfl⟩
   ·obtain⟨c,hc⟩:∃c,l[i]? = some c:=⟨_,ax (by omega)⟩;rw[hc] at e;simp only at e;obtain⟨hb1,hb2⟩:=ay.1 hc;have k3:(i:Int)<(l.length:Int):=by omega
    have k4:(0:Int)≤(i:Int):=by omega
    have k5:i<l.length:=hb1;have hSj2:(ByteArray.mk l.toArray)[i]'(show i<l.length from hb1)=c:=hb2;clear hc hb2 hil
    cases hg:gz c
    ·have q1:(eT c==6)=false:=hg
     cases hs:sE c;rw[aB (by simp[hs,hg])] at e
     rotate_left
     rw[aD (.inl hs)] at e
     rotate_left
     all_goals (
       rw[e];have HS:=aa hs;clear hg hs e;go_enter Tryz.func95,Tryz.ntmps95
       go_wp2_with (first
         | (go_at_call 130;with_reducible refine(sO l i _ hi hl).mono ?_;rintro e w' ⟨rfl,rfl⟩;rw[HZ.out])
         | (go_at_call 85;refine(gK c _).mono ?_;rintro e w' ⟨rfl,rfl⟩)
         | (go_at_call 64;refine(IU c _).mono ?_;rintro e w' ⟨rfl,rfl⟩;rw[HS.out]))
       go_ret;exact⟨rfl,rfl⟩)
    ·have q1:(eT c==6)=true:=hg;rw[aD (.inr hg)] at e;rw[e];clear hg e;go_enter Tryz.func95,Tryz.ntmps95
     go_wp2_with (first
       | (go_at_call 130;with_reducible refine(sO l i _ hi hl).mono ?_;rintro e w' ⟨rfl,rfl⟩;rw[HZ.out])
       | (go_at_call 85;refine(gK c _).mono ?_;rintro e w' ⟨rfl,rfl⟩))
     go_ret;exact⟨rfl,rfl⟩
end Go.Proofs.YtcagfamdoaoimaaGreatDoor
