/- Classes of bytes: the program's (class.Of, class.Ends) and the reference's (quillwortref04.In, Class, Ends) are one function of the byte. -/
import Derived.Test.YtcagfamdoaoimaaGreatDoorMem
import Derived.Test.YtcagfamdoaoimaaGreatDoorPl6
set_option linter.unusedVariables false
set_option linter.unusedSimpArgs false
set_option maxRecDepth 100000
set_option maxHeartbeats 8000000
namespace Go.Proofs.YtcagfamdoaoimaaGreatDoor
open Go.RowKit
variable {x:Bool} {a b:Int} (l:List UInt8) (c:UInt8) (p:UInt8→Bool) (z:Int) (i k:Nat) (w:World)
theorem uP :
    Calls Tryz.prog 120 #[.int .u8 (c.toNat:Int)] w fun e w'=>e=.returned (.int .i64 (fp c))∧w=w':=by
  go_enter Tryz.func120,Tryz.ntmps120;go_wp2;all_goals go_ret
  all_goals refine⟨iO ?_,rfl⟩
  all_goals (show _=fp c)
  all_goals go_light
  all_goals try simp only[aR,ay,dF] at *
  all_goals unfold fp
  all_goals (repeat (first|rw[aE (by omega)]|rw[aB (by omega)]))
theorem jq :
    Calls Tryz.prog 226 #[.int .u8 (c.toNat:Int)] w fun e w'=>e=.returned (.bool (gU c))∧w=w':=by
  go_enter Tryz.func226,Tryz.ntmps226;go_wp2_with (go_at_call 120;refine(uP _ _).mono ?_;rintro e w' ⟨rfl,rfl⟩);all_goals go_ret
  all_goals refine⟨jR ?_,rfl⟩
  all_goals (show _=gU c)
  all_goals go_light
  all_goals try simp only[aR,ay,dF] at *
  all_goals unfold gU
  all_goals (rw[aY];first|(simp_all;done)|(simp;omega)|omega)
theorem Jz (l:List UInt8) (w:World) (hl:l.length≤1000000) :
    Calls Tryz.prog 64 #[.int .u8 (c.toNat:Int),.string ⟨l.toArray⟩] w fun e w'=>e=.returned (.bool (uK c l))∧w=w':=by
  go_enter Tryz.func64,Tryz.ntmps64;go_wp2;go_loop [5] (fun i=>∃k:Nat,k≤l.length∧i=.int .i64 k∧uK c (l.take k)=false) (fun i=>l.length-(intOf i).toNat)
  case atStart=>exact⟨0,by omega,rfl,rfl⟩
  case round=>
    obtain⟨k,hk,rfl,hin⟩:=hrel;have Hin:=aa hin;clear hin;by_cases hlt:k<l.length
    ·go_wp2
     ·go_ret;simp only[lE,aR] at *;refine⟨jR ?_,trivial⟩;refine(yS c l (k+1) ?_).symm;rw[yR c l k hlt]
      have:(l[k]).toNat=c.toNat:=by omega
      simp[this]
     ·simp only[lE,ay,dF] at *;refine⟨⟨k+1,by omega,by go_num,?_⟩,by simp[intOf];omega⟩;rw[yR c l k hlt,Hin.out]
      have:¬(l[k]).toNat=c.toNat:=by omega
      simp[this]
    ·go_wp2;go_ret;refine⟨jR ?_,rfl⟩
     have:=Hin.out
     rw[bP (by omega)] at this;exact this.symm
theorem gQ :
    Calls Tryz.prog 85 #[.int .u8 (c.toNat:Int)] w fun e w'=>e=.returned (.int .i64 (fp c))∧w=w':=by
  rw[←Hf];go_enter Tryz.func85,Tryz.ntmps85;go_wp2_with (go_at_call 64;refine(Jz c _ _ (by decide)).mono ?_;rintro e w' ⟨rfl,rfl⟩);all_goals go_ret
  all_goals refine⟨iO ?_,by first|rfl|trivial⟩
  all_goals (show _=CB c)
  all_goals go_light
  all_goals try simp only[aR,ay,dF] at *
  all_goals unfold CB Gf Cl yP Cm
  all_goals (repeat (first|rw[aE (by first|omega|assumption)]|rw[aB (by first|omega|simp[*])]))
theorem BH (p:UInt8→Bool):∀(l:List UInt8) (k:Nat),k<(l.takeWhile p).length→∃c,l[k]? = some c∧p c=true
  | [],k,h=>by simp at h
  | c::l,k,h=>by
    by_cases hc:p c=true
    ·rw[dh hc] at h
     cases k with
     | zero=>exact⟨c,rfl,hc⟩
     | succ k=>simpa using BH p l k (by simpa using h)
    ·rw[cS hc] at h;simp at h
theorem BK (p:UInt8→Bool):∀(l:List UInt8) (c:UInt8),l[(l.takeWhile p).length]? = some c→p c=false
  | [],c,h=>by simp at h
  | d::l,c,h=>by
    by_cases hd:p d=true
    ·rw[dh hd] at h;exact BK p l c (by simpa using h)
    ·rw[cS hd] at h;simp at h;subst h;simpa using hd
def JX (q:fh) (t:Int):fh:={q with to:=t,op:=false}
def fC (p:UInt8→Bool) (l:List UInt8) (i:Nat):Nat:=((l.drop i).takeWhile p).length
theorem iK (l:List UInt8) (i:Nat):fC p l i≤l.length-i:=by
  unfold fC;have h1:((l.drop i).takeWhile p).length≤(l.drop i).length:=(List.takeWhile_prefix p).length_le;simpa using h1
theorem tZ:Calls Tryz.prog 218 #[.int .u8 (c.toNat:Int)] w fun e w'=>e=.returned (.bool (jo c))∧w=w':=by
  go_enter Tryz.func218,Tryz.ntmps218;go_wp2_with (go_at_call 120;refine(uP c _).mono ?_;rintro e w' ⟨rfl,rfl⟩);go_ret;exact⟨rfl,rfl⟩
theorem wW:Calls Tryz.prog 220 #[.int .u8 (c.toNat:Int)] w fun e w'=>e=.returned (.bool (gF c))∧w=w':=by
  go_enter Tryz.func220,Tryz.ntmps220;go_wp2_with (go_at_call 120;refine(uP c _).mono ?_;rintro e w' ⟨rfl,rfl⟩);go_ret;exact⟨rfl,rfl⟩
theorem Ck:Calls Tryz.prog 219 #[.int .u8 (c.toNat:Int)] w fun e w'=>e=.returned (.bool (iF c))∧w=w':=by
  cases hl:jo c;all_goals (
    have HL:=aa hl;clear hl;go_enter Tryz.func219,Tryz.ntmps219
    go_wp2_with (first
      | (go_at_call 218;refine(tZ c _).mono ?_;rintro e w' ⟨rfl,rfl⟩;rw[HL.out])
      | (go_at_call 220;refine(wW c _).mono ?_;rintro e w' ⟨rfl,rfl⟩))
    go_ret;exact⟨jR (by unfold iF;rw[HL.out];rfl),rfl⟩)
theorem xI (hi:i≤100000) (hl:l.length≤100000) :
    Calls Tryz.prog 217 #[.string ⟨l.toArray⟩,.int .i64 (i:Int),.func (.func 218) #[] #[]] w fun e w'=>e=.returned (.int .i64 (fC jo l i:Int))∧w=w':=by
  have k0:decide ((i:Int)<0)=false:=by simp
  by_cases hil:l.length≤i
  ·have k1:decide ((l.length:Int)≤(i:Int))=true:=by simp;omega
   have e:fC jo l i=0:=by have:=iK jo l i;omega
   rw[e];clear e;go_enter Tryz.func217,Tryz.ntmps217;go_wp2;go_step3;go_wp2;try rw[bF]
   go_ret;exact⟨rfl,rfl⟩
  ·have k1:decide ((l.length:Int)≤(i:Int))=false:=by simp;omega
   have hsl:=iK jo l i;have hlt:∀k,k<fC jo l i→∃c,l[i+k]? = some c∧jo c=true:=fun k hk=>by
     have:=BH jo (l.drop i) k hk
     simpa [bZ] using this
   have hat:∀c,l[i+fC jo l i]? = some c→jo c=false:=fun c hc=>BK jo (l.drop i) c (by rw[bZ];exact hc)
   generalize hm:fC jo l i=m at *;have H:=aa (ac hlt hat);clear hlt hat hm;go_enter Tryz.func217,Tryz.ntmps217;go_wp2;go_step3;go_wp2;go_step3;go_wp2;go_loop [7] (fun n=>∃k:Nat,k≤m∧n=.int .i64 k) (fun n=>m-(intOf n).toNat)
   case atStart=>exact⟨0,by omega,rfl⟩
   case round=>
     obtain⟨k,hk,rfl⟩:=hrel;by_cases hkm:k<m
     ·obtain⟨c,hc,hp⟩:=H.out.1 k hkm;obtain⟨hb1,hb2⟩:=aC.1 hc;have hSj2:(ByteArray.mk l.toArray)[i+k]'(show i+k<l.length from hb1)=c:=hb2;have k2:(i:Int)+(k:Int)<(l.length:Int):=by omega
      have k3:(0:Int)≤(i:Int)+(k:Int):=by omega
      have k4:((i:Int)+(k:Int)).toNat=i+k:=by omega
      have HP:=aa hp;clear hc hb2 hp;go_wp2_with (go_at_call 218;refine(tZ c _).mono ?_;rintro e w' ⟨rfl,rfl⟩;rw[HP.out]);exact⟨⟨k+1,by omega,by go_num⟩,by simp[intOf];omega⟩
     ·obtain rfl:k=m:=by omega
      by_cases hend:i+k=l.length
      ·have k2:¬(i:Int)+(k:Int)<(l.length:Int):=by omega
       go_wp2;try rw[bF]
       go_ret;exact⟨rfl,rfl⟩
      ·obtain⟨c,hc⟩:∃c,l[i+k]? = some c:=⟨_,ax (by omega)⟩;have hp:=H.out.2 c hc;obtain⟨hb1,hb2⟩:=aC.1 hc;have hSj2:(ByteArray.mk l.toArray)[i+k]'(show i+k<l.length from hb1)=c:=hb2;have k2:(i:Int)+(k:Int)<(l.length:Int):=by omega
       have k3:(0:Int)≤(i:Int)+(k:Int):=by omega
       have k4:((i:Int)+(k:Int)).toNat=i+k:=by omega
       have HP:=aa hp;clear hc hb2 hp;go_wp2_with (go_at_call 218;refine(tZ c _).mono ?_;rintro e w' ⟨rfl,rfl⟩;rw[HP.out]);try rw[bF]
       go_ret;exact⟨rfl,rfl⟩
theorem Et (hi:i≤100000) (hl:l.length≤100000) :
    Calls Tryz.prog 217 #[.string ⟨l.toArray⟩,.int .i64 (i:Int),.func (.func 219) #[] #[]] w fun e w'=>e=.returned (.int .i64 (fC iF l i:Int))∧w=w':=by
  have k0:decide ((i:Int)<0)=false:=by simp
  by_cases hil:l.length≤i
  ·have k1:decide ((l.length:Int)≤(i:Int))=true:=by simp;omega
   have e:fC iF l i=0:=by have:=iK iF l i;omega
   rw[e];clear e;go_enter Tryz.func217,Tryz.ntmps217;go_wp2;go_step3;go_wp2;try rw[bF]
   go_ret;exact⟨rfl,rfl⟩
  ·have k1:decide ((l.length:Int)≤(i:Int))=false:=by simp;omega
   have hsl:=iK iF l i;have hlt:∀k,k<fC iF l i→∃c,l[i+k]? = some c∧iF c=true:=fun k hk=>by
     have:=BH iF (l.drop i) k hk
     simpa [bZ] using this
   have hat:∀c,l[i+fC iF l i]? = some c→iF c=false:=fun c hc=>BK iF (l.drop i) c (by rw[bZ];exact hc)
   generalize hm:fC iF l i=m at *;have H:=aa (ac hlt hat);clear hlt hat hm;go_enter Tryz.func217,Tryz.ntmps217;go_wp2;go_step3;go_wp2;go_step3;go_wp2;go_loop [7] (fun n=>∃k:Nat,k≤m∧n=.int .i64 k) (fun n=>m-(intOf n).toNat)
   case atStart=>exact⟨0,by omega,rfl⟩
   case round=>
     obtain⟨k,hk,rfl⟩:=hrel;by_cases hkm:k<m
     ·obtain⟨c,hc,hp⟩:=H.out.1 k hkm;obtain⟨hb1,hb2⟩:=aC.1 hc;have hSj2:(ByteArray.mk l.toArray)[i+k]'(show i+k<l.length from hb1)=c:=hb2;have k2:(i:Int)+(k:Int)<(l.length:Int):=by omega
      have k3:(0:Int)≤(i:Int)+(k:Int):=by omega
      have k4:((i:Int)+(k:Int)).toNat=i+k:=by omega
      have HP:=aa hp;clear hc hb2 hp;go_wp2_with (go_at_call 219;refine(Ck c _).mono ?_;rintro e w' ⟨rfl,rfl⟩;rw[HP.out]);exact⟨⟨k+1,by omega,by go_num⟩,by simp[intOf];omega⟩
     ·obtain rfl:k=m:=by omega
      by_cases hend:i+k=l.length
      ·have k2:¬(i:Int)+(k:Int)<(l.length:Int):=by omega
       go_wp2;try rw[bF]
       go_ret;exact⟨rfl,rfl⟩
      ·obtain⟨c,hc⟩:∃c,l[i+k]? = some c:=⟨_,ax (by omega)⟩;have hp:=H.out.2 c hc;obtain⟨hb1,hb2⟩:=aC.1 hc;have hSj2:(ByteArray.mk l.toArray)[i+k]'(show i+k<l.length from hb1)=c:=hb2;have k2:(i:Int)+(k:Int)<(l.length:Int):=by omega
       have k3:(0:Int)≤(i:Int)+(k:Int):=by omega
       have k4:((i:Int)+(k:Int)).toNat=i+k:=by omega
       have HP:=aa hp;clear hc hb2 hp;go_wp2_with (go_at_call 219;refine(Ck c _).mono ?_;rintro e w' ⟨rfl,rfl⟩;rw[HP.out]);try rw[bF]
       go_ret;exact⟨rfl,rfl⟩
theorem Eu (hi:i≤100000) (hl:l.length≤100000) :
    Calls Tryz.prog 217 #[.string ⟨l.toArray⟩,.int .i64 (i:Int),.func (.func 220) #[] #[]] w fun e w'=>e=.returned (.int .i64 (fC gF l i:Int))∧w=w':=by
  have k0:decide ((i:Int)<0)=false:=by simp
  by_cases hil:l.length≤i
  ·have k1:decide ((l.length:Int)≤(i:Int))=true:=by simp;omega
   have e:fC gF l i=0:=by have:=iK gF l i;omega
   rw[e];clear e;go_enter Tryz.func217,Tryz.ntmps217;go_wp2;go_step3;go_wp2;try rw[bF]
   go_ret;exact⟨rfl,rfl⟩
  ·have k1:decide ((l.length:Int)≤(i:Int))=false:=by simp;omega
   have hsl:=iK gF l i;have hlt:∀k,k<fC gF l i→∃c,l[i+k]? = some c∧gF c=true:=fun k hk=>by
     have:=BH gF (l.drop i) k hk
     simpa [bZ] using this
   have hat:∀c,l[i+fC gF l i]? = some c→gF c=false:=fun c hc=>BK gF (l.drop i) c (by rw[bZ];exact hc)
   generalize hm:fC gF l i=m at *;have H:=aa (ac hlt hat);clear hlt hat hm;go_enter Tryz.func217,Tryz.ntmps217;go_wp2;go_step3;go_wp2;go_step3;go_wp2;go_loop [7] (fun n=>∃k:Nat,k≤m∧n=.int .i64 k) (fun n=>m-(intOf n).toNat)
   case atStart=>exact⟨0,by omega,rfl⟩
   case round=>
     obtain⟨k,hk,rfl⟩:=hrel;by_cases hkm:k<m
     ·obtain⟨c,hc,hp⟩:=H.out.1 k hkm;obtain⟨hb1,hb2⟩:=aC.1 hc;have hSj2:(ByteArray.mk l.toArray)[i+k]'(show i+k<l.length from hb1)=c:=hb2;have k2:(i:Int)+(k:Int)<(l.length:Int):=by omega
      have k3:(0:Int)≤(i:Int)+(k:Int):=by omega
      have k4:((i:Int)+(k:Int)).toNat=i+k:=by omega
      have HP:=aa hp;clear hc hb2 hp;go_wp2_with (go_at_call 220;refine(wW c _).mono ?_;rintro e w' ⟨rfl,rfl⟩;rw[HP.out]);exact⟨⟨k+1,by omega,by go_num⟩,by simp[intOf];omega⟩
     ·obtain rfl:k=m:=by omega
      by_cases hend:i+k=l.length
      ·have k2:¬(i:Int)+(k:Int)<(l.length:Int):=by omega
       go_wp2;try rw[bF]
       go_ret;exact⟨rfl,rfl⟩
      ·obtain⟨c,hc⟩:∃c,l[i+k]? = some c:=⟨_,ax (by omega)⟩;have hp:=H.out.2 c hc;obtain⟨hb1,hb2⟩:=aC.1 hc;have hSj2:(ByteArray.mk l.toArray)[i+k]'(show i+k<l.length from hb1)=c:=hb2;have k2:(i:Int)+(k:Int)<(l.length:Int):=by omega
       have k3:(0:Int)≤(i:Int)+(k:Int):=by omega
       have k4:((i:Int)+(k:Int)).toNat=i+k:=by omega
       have HP:=aa hp;clear hc hb2 hp;go_wp2_with (go_at_call 220;refine(wW c _).mono ?_;rintro e w' ⟨rfl,rfl⟩;rw[HP.out]);try rw[bF]
       go_ret;exact⟨rfl,rfl⟩
def so (l:List UInt8) (i:Nat):Nat:=if fC jo l i=0 then 0 else fC iF l i
theorem uY (l:List UInt8) (i:Nat):fC p l i=0↔∀c,l[i]? = some c→p c=false:=by
  unfold fC;have e:(l.drop i)[0]? = l[i]? := by rw[bZ];rfl
  rw[←e]
  cases h:l.drop i with
  | nil=>simp
  | cons d m=>
    by_cases hd:p d=true
    ·simp[dh hd,hd]
    ·simp[cS hd,hd]
theorem tW:so l i=oM (l.drop i):=by
  unfold so oM;have e:(l.drop i)[0]? = l[i]? := by rw[bZ];rfl
  by_cases h:fC jo l i=0
  ·rw[aE h];rw[uY] at h;rw[←e] at h
   cases hd:l.drop i with
   | nil=>rfl
   | cons d m=>
     rw[hd] at h;simp only;rw[aB (by rw[h d rfl];simp)]
  ·rw[aB h];unfold fC at h ⊢
   cases hd:l.drop i with
   | nil=>rw[hd] at h;simp at h
   | cons d m=>
     rw[hd] at h;have hl:jo d=true:=by
       by_cases hc:jo d=true
       ·exact hc
       ·rw[cS hc] at h;simp at h
     simp only;rw[aE hl]
theorem tV:so l i≤l.length-i:=by
  unfold so;split
  ·omega
  ·exact iK _ _ _
theorem wC:pG l i=if 0<so l i then so l i else match l[i]? with
    | none=>0
    | some c=>if sD c=true∨gF c=true then 1 else 0:=by
  unfold pG yu;rw[tW];have e:(l.drop i)[0]? = l[i]? := by rw[bZ];rfl
  rw[←e]
  cases l.drop i<;>rfl
theorem wB:pG l i≤l.length-i:=by
  rw[wC];split
  ·exact tV _ _
  ·cases h:l[i]? with
   | none=>simp
   | some c=>
     have:=(aC.1 h).1
     simp only;split<;>omega
theorem pK (hi:i≤100000) (hl:l.length≤100000) :
    Calls Tryz.prog 186 #[.string ⟨l.toArray⟩,.int .i64 (i:Int)] w fun e w'=>e=.returned (.int .i64 (so l i:Int))∧w=w':=by
  unfold so;by_cases h0:fC jo l i=0
  ·rw[aE h0];have k0:((fC jo l i:Int)==0)=true:=by simp[h0]
   clear h0;go_enter Tryz.func186,Tryz.ntmps186;go_wp2_with (go_at_call 217;with_reducible refine(xI l i _ hi hl).mono ?_;rintro e w' ⟨rfl,rfl⟩);go_ret;exact⟨rfl,rfl⟩
  ·rw[aB h0];have k0:((fC jo l i:Int)==0)=false:=by simp[h0]
   clear h0;go_enter Tryz.func186,Tryz.ntmps186
   go_wp2_with (first
     | (go_at_call 217;with_reducible refine(xI l i _ hi hl).mono ?_;rintro e w' ⟨rfl,rfl⟩)
     | (go_at_call 217;with_reducible refine(Et l i _ hi hl).mono ?_;rintro e w' ⟨rfl,rfl⟩))
   go_ret;exact⟨rfl,rfl⟩
theorem ly (hi:i≤100000) (hl:l.length≤100000) :
    Calls Tryz.prog 187 #[.string ⟨l.toArray⟩,.int .i64 (i:Int)] w fun e w'=>e=.returned (.int .i64 (fC gF l i:Int))∧w=w':=by
  go_enter Tryz.func187,Tryz.ntmps187;go_wp2_with (go_at_call 217;with_reducible refine(Eu l i _ hi hl).mono ?_;rintro e w' ⟨rfl,rfl⟩);go_ret;exact⟨rfl,rfl⟩
theorem KQ (h:sD c=true):c=64∨c=42∨c=35∨c=63∨c=45∨c=36∨c=33:=by
  have:=fm (fun c => !sD c||(c==64||c==42||c==35||c==63||c==45||c==36||c==33)) (by decide +kernel) c
  simpa [h,or_assoc] using this
theorem IE (h:sD c=false):((c.toNat:Int)==64)=false∧((c.toNat:Int)==42)=false∧((c.toNat:Int)==35)=false∧((c.toNat:Int)==63)=false∧((c.toNat:Int)==45)=false∧((c.toNat:Int)==36)=false∧((c.toNat:Int)==33)=false:=by
  have:=fm (fun c=>sD c||(((c.toNat:Int)==64)==false&&((c.toNat:Int)==42)==false&&((c.toNat:Int)==35)==false&&((c.toNat:Int)==63)==false&&((c.toNat:Int)==45)==false&&((c.toNat:Int)==36)==false&&((c.toNat:Int)==33)==false)) (by decide +kernel) c
  simpa [h,and_assoc] using this
theorem Je (hi:i≤100000) (hl:l.length≤100000) :
    Calls Tryz.prog 148 #[.string ⟨l.toArray⟩,.int .i64 (i:Int)] w fun e w'=>e=.returned (.int .i64 (pG l i:Int))∧w=w':=by
  have e:=wC l i;have k0:decide ((i:Int)<0)=false:=by simp
  by_cases h0:0<so l i
  ·rw[aE h0] at e;rw[e];have k1:decide ((0:Int)<(so l i:Int))=true:=by simp;omega
   clear e;go_enter Tryz.func148,Tryz.ntmps148;go_wp2_with (go_at_call 186;with_reducible refine(pK l i _ hi hl).mono ?_;rintro e w' ⟨rfl,rfl⟩);go_ret;exact⟨rfl,rfl⟩
  ·rw[aB h0] at e;have k1:decide ((0:Int)<(so l i:Int))=false:=by simp;omega
   by_cases hil:l.length≤i
   ·rw[cx hil] at e;rw[e];have k2:decide ((l.length:Int)≤(i:Int))=true:=by simp;omega
    clear e;go_enter Tryz.func148,Tryz.ntmps148;go_wp2_with (go_at_call 186;with_reducible refine(pK l i _ hi hl).mono ?_;rintro e w' ⟨rfl,rfl⟩);go_ret;exact⟨rfl,rfl⟩
   ·obtain⟨c,hc⟩:∃c,l[i]? = some c:=⟨_,ax (by omega)⟩;rw[hc] at e;simp only at e;have hd:=uY gF l i;rw[hc] at hd;obtain⟨hb1,hb2⟩:=aC.1 hc;have k2:decide ((l.length:Int)≤(i:Int))=false:=by simp;omega
    have k3:(i:Int)<(l.length:Int):=by omega
    have k4:(0:Int)≤(i:Int):=by omega
    have hSj2:(ByteArray.mk l.toArray)[i]'(show i<l.length from hb1)=c:=hb2;clear hc hb2;by_cases hs:sD c=true
    ·rw[aE (.inl hs)] at e;rw[e];clear e hd;rcases KQ c hs with rfl|rfl|rfl|rfl|rfl|rfl|rfl
     all_goals (
       clear hs;go_enter Tryz.func148,Tryz.ntmps148;go_wp2_with (go_at_call 186;with_reducible refine(pK l i _ hi hl).mono ?_;rintro e w' ⟨rfl,rfl⟩);go_ret;exact⟨rfl,rfl⟩)
    ·have hs':sD c=false:=by simpa using hs
     obtain⟨s1,s2,s3,s4,s5,s6,s7⟩:=IE c hs';by_cases hg:gF c=true
     ·rw[aE (.inr hg)] at e;have hn:fC gF l i≠0:=fun h=>by have:=hd.1 h c rfl;rw[hg] at this;cases this
      have k5:decide ((1:Int)≤(fC gF l i:Int))=true:=by simp;omega
      have k6:min (fC gF l i:Int) 1=1:=by omega
      rw[e];have HX:=aa hn;clear e hd hs hs' hg hn k6;go_enter Tryz.func148,Tryz.ntmps148
      go_wp2_with (first
        | (go_at_call 186;with_reducible refine(pK l i _ hi hl).mono ?_;rintro e w' ⟨rfl,rfl⟩)
        | (go_at_call 187;with_reducible refine(ly l i _ hi hl).mono ?_;rintro e w' ⟨rfl,rfl⟩))
      all_goals (
        go_ret;exact⟨iO (by have:=HX.out;first|rfl|omega),rfl⟩)
     ·rw[aB (fun h=>by rcases h with h|h;exact hs h;exact hg h)] at e;have hn:fC gF l i=0:=hd.2 (fun d hd'=>by cases hd';simpa using hg);have hz:=aa hn;rw[e];clear hd hs hs' hg hn;go_enter Tryz.func148,Tryz.ntmps148
      go_wp2_with (first
        | (go_at_call 186;with_reducible refine(pK l i _ hi hl).mono ?_;rintro e w' ⟨rfl,rfl⟩)
        | (go_at_call 187;with_reducible refine(ly l i _ hi hl).mono ?_;rintro e w' ⟨rfl,rfl⟩;rw[hz.out]))
      go_ret;exact⟨rfl,rfl⟩
theorem Jf (h0:0≤z) (h1:z≤100000) (hl:l.length≤100000) :
    Calls Tryz.prog 148 #[.string ⟨l.toArray⟩,.int .i64 z] w fun e w'=>e=.returned (.int .i64 (pG l z.toNat:Int))∧w=w':=by
  obtain⟨i,rfl⟩:=Int.eq_ofNat_of_zero_le h0;exact Je l i w (by omega) hl
def jp (l:List UInt8):Bool:=match l with
  | []=>false
  | c::r=>jo c&&r.all iF
theorem rU (h:(a==b)=x):(a != b) = !x:=by rw[←h];rfl
theorem qO (hl:l.length≤100000) :
    Calls Tryz.prog 158 #[.string ⟨l.toArray⟩] w fun e w'=>e=.returned (.bool (jp l))∧w=w':=by
  cases l with
  | nil=>
    go_enter Tryz.func158,Tryz.ntmps158;go_wp2;go_ret;exact⟨rfl,rfl⟩
  | cons c r=>
    obtain⟨m,hm⟩:∃m:List UInt8,m=c::r:=⟨_,rfl⟩;have hlen:m.length=r.length+1:=by rw[hm];rfl
    have hl0:((m.length:Int)==0)=false:=by rw[ay];omega
    have hl1:(0:Int)<(m.length:Int):=by omega
    have hl2:0<m.length:=by omega
    have hb0:∃h:0<(ByteArray.mk m.toArray).size,(ByteArray.mk m.toArray)[0]'h=c:=⟨hl2,by subst hm;rfl⟩;obtain⟨hb1,hb2⟩:=hb0;have hat:∀k,m[k+1]? = r[k]? := by intro k;subst hm;rfl
    have hres:jp (c::r)=(jo c&&r.all iF):=rfl;rw[hres,←hm];have hl':m.length≤100000:=by rw[hm];exact hl
    have HA:=aa hat;clear hat hl hres;by_cases hc:jo c=true
    ·have hc5:(fp c==5)=true:=hc;have hn5:(fp c != 5)=false:=rU hc5;rw[hc,cJ];clear hm hc;have HLE:=aa hlen;clear hlen;go_enter Tryz.func158,Tryz.ntmps158;go_wp2_with (go_at_call 85;refine(gQ c _).mono ?_;rintro e w' ⟨rfl,rfl⟩);go_loop [3] (fun i=>∃k:Nat,k≤r.length∧i=.int .i64 ((k:Int)+1)∧(r.take k).all iF=true) (fun i=>r.length+1-(intOf i).toNat)
     case atStart=>exact⟨0,by omega,rfl,rfl⟩
     case round=>
       obtain⟨k,hk,rfl,hp⟩:=hrel;have HP:=aa hp;clear hp;by_cases hlt:k<r.length
       ·obtain⟨d,hd⟩:∃d,r[k]? = some d:=⟨_,ax hlt⟩;have hdm:m[k+1]? = some d:=by rw[HA.out,hd]
        obtain⟨g1,g2⟩:=aC.1 hdm;have g3:(ByteArray.mk m.toArray)[k+1]'(show k+1<m.length from g1)=d:=g2;have k1:(k:Int)+1<(m.length:Int):=by omega
        have k2:(0:Int)≤(k:Int)+1:=by omega
        have k3:((k:Int)+1).toNat=k+1:=by omega
        have HD:=aa hd;clear g2 hd hdm
        cases hx:jo d
        ·have q1:(fp d==5)=false:=hx;have q2:(fp d != 5)=true:=rU q1
         cases hy:gF d
         ·have q3:(fp d==6)=false:=hy;have q4:(fp d != 6)=true:=rU q3;have HX:=aa (ac hx hy);clear hx hy;go_wp2_with (go_at_call 85;refine(gQ d _).mono ?_;rintro e w' ⟨rfl,rfl⟩);go_ret;refine⟨jR ?_,rfl⟩
          symm
          rw[List.all_eq_false];exact⟨d,aW HD.out,by simp[iF,HX.out.1,HX.out.2]⟩
         ·have q3:(fp d==6)=true:=hy;have q4:(fp d != 6)=false:=rU q3;have HX:=aa (ac hx hy);clear hx hy;go_wp2_with (go_at_call 85;refine(gQ d _).mono ?_;rintro e w' ⟨rfl,rfl⟩);refine⟨⟨k+1,by omega,by go_num,?_⟩,by simp[intOf];omega⟩;obtain⟨t1,t2⟩:=aC.1 HD.out;rw[bH t1,t2,List.all_append,HP.out];simp[iF,HX.out.1,HX.out.2]
        ·have q1:(fp d==5)=true:=hx;have q2:(fp d != 5)=false:=rU q1;have HX:=aa hx;clear hx;go_wp2_with (go_at_call 85;refine(gQ d _).mono ?_;rintro e w' ⟨rfl,rfl⟩);refine⟨⟨k+1,by omega,by go_num,?_⟩,by simp[intOf];omega⟩;obtain⟨t1,t2⟩:=aC.1 HD.out;rw[bH t1,t2,List.all_append,HP.out];simp[iF,HX.out]
       ·have k1:¬(k:Int)+1<(m.length:Int):=by have:=HLE.out;omega
        go_wp2;go_ret;refine⟨jR ?_,rfl⟩
        have:=HP.out
        rw[bP (by omega)] at this;exact this.symm
    ·have hc':jo c=false:=by simpa using hc
     have hc5:(fp c==5)=false:=hc';have hn5:(fp c != 5)=true:=rU hc5;rw[hc',cN];clear hm hc hc';go_enter Tryz.func158,Tryz.ntmps158;go_wp2_with (go_at_call 85;refine(gQ c _).mono ?_;rintro e w' ⟨rfl,rfl⟩);go_ret;exact⟨rfl,rfl⟩
theorem zF {p:UInt8→Bool}:∀(l:List UInt8) (k:Nat),k≤l.length→((l.take k).all p=true↔k≤(l.takeWhile p).length)
  | [],k,h=>by simp at h;subst h;simp
  | c::l,0,_=>by simp
  | c::l,k+1,h=>by
    by_cases hc:p c=true
    ·rw[dh hc,cG,List.all_cons,hc,cJ,zF l k (by simpa using h)];simp
    ·rw[cS hc,cG,List.all_cons];simp[hc]
theorem jW (h1:1≤k) (hk:k≤l.length):jp (l.take k)=decide (k≤oM l):=by
  cases l with
  | nil=>simp at hk;omega
  | cons c r=>
    obtain⟨k,rfl⟩:∃k',k=k'+1:=⟨k-1,by omega⟩;rw[cG];unfold jp oM;by_cases hc:jo c=true
    ·have hn:iF c=true:=by simp[iF,hc]
     simp only[hc,cJ,bW];rw[dh hn,aY,zF r k (by simpa using hk)];simp
    ·simp[hc]
theorem qh (hi:i≤l.length) (hl:l.length≤100000) :
    Calls Tryz.prog 130 #[.string ⟨l.toArray⟩,.int .i64 (i:Int)] w fun e w'=>e=.returned (.int .i64 (so l i:Int))∧w=w':=by
  have hle:=tV l i;have hkey:∀k,1≤k→i+k≤l.length→jp ((l.drop i).take k)=decide (k≤so l i):=fun k h1 h2=>by
    rw[tW];exact jW _ k h1 (by simp;omega)
  generalize so l i=N at *;have HK:=aa hkey;clear hkey;go_enter Tryz.func130,Tryz.ntmps130;go_wp2;go_loop [5,6] (fun n k=>∃j:Nat,i+j≤l.length∧k=.int .i64 ((j:Int)+1)∧n=.int .i64 ((min j N:Nat):Int)) (fun _ k=>l.length+1-(intOf k).toNat)
  case atStart=>exact⟨0,by omega,rfl,by simp⟩
  case round=>
    obtain⟨j,hj,rfl,rfl⟩:=hrel;by_cases hlt:i+(j+1)≤l.length
    ·have k1:decide ((j:Int)+1≤(l.length:Int)-(i:Int))=true:=by simp;omega
     have k2:(i:Int)+((j:Int)+1)≤(l.length:Int):=by omega
     have k3:(0:Int)≤(i:Int)+((j:Int)+1):=by omega
     have k4:((i:Int)+((j:Int)+1)).toNat=i+(j+1):=by omega
     have k5:(i:Int)≤(i:Int)+((j:Int)+1):=by omega
     have hx:=HK.out (j+1) (by omega) hlt;have he:(ByteArray.mk l.toArray).extract i (i+(j+1))=⟨((l.drop i).take (j+1)).toArray⟩:=by
       rw[dX,←List.take_drop]
     by_cases hN:j+1≤N
     ·have hx':jp ((l.drop i).take (j+1))=true:=by rw[hx];simpa using hN
      have HX:=aa (ac hx' he);clear hx hx' he;go_wp2_with (go_at_call 158;rw[HX.out.2];refine(qO _ _ (by simp;omega)).mono ?_;rintro e w' ⟨rfl,rfl⟩;rw[HX.out.1]);exact⟨⟨j+1,by omega,by go_num,by rw[show min (j+1) N=j+1 by omega];go_num⟩,by simp[intOf];omega⟩
     ·have hx':jp ((l.drop i).take (j+1))=false:=by rw[hx];simpa using hN
      have HX:=aa (ac hx' he);clear hx hx' he;go_wp2_with (go_at_call 158;rw[HX.out.2];refine(qO _ _ (by simp;omega)).mono ?_;rintro e w' ⟨rfl,rfl⟩;rw[HX.out.1]);exact⟨⟨j+1,by omega,by go_num,by rw[show min (j+1) N=min j N by omega]⟩,by simp[intOf];omega⟩
    ·have k1:decide ((j:Int)+1≤(l.length:Int)-(i:Int))=false:=by simp;omega
     go_wp2;go_ret;exact⟨iO (by congr 1;omega),rfl⟩
theorem KR:uK c [64,42,35,63,45,36,33]=sD c:=by
  have:=fm (fun c=>uK c [64,42,35,63,45,36,33]==sD c) (by decide +kernel) c
  simpa using this
theorem BU :
    Calls Tryz.prog 64 #[.int .u8 (c.toNat:Int),.string ⟨#[64,42,35,63,45,36,33]⟩] w fun e w'=>e=.returned (.bool (sD c))∧w=w':=by
  rw[←KR];exact Jz c [64,42,35,63,45,36,33] w (by decide)
theorem EJ (hi:i≤l.length) (hl:l.length≤100000) :
    Calls Tryz.prog 95 #[.string ⟨l.toArray⟩,.int .i64 (i:Int)] w fun e w'=>e=.returned (.int .i64 (pG l i:Int))∧w=w':=by
  have e:=wC l i;by_cases h0:0<so l i
  ·rw[aE h0] at e;rw[e];have k1:((so l i:Int)==0)=false:=by rw[ay];omega
   clear e;go_enter Tryz.func95,Tryz.ntmps95;go_wp2_with (go_at_call 130;with_reducible refine(qh l i _ hi hl).mono ?_;rintro e w' ⟨rfl,rfl⟩);go_ret;exact⟨rfl,rfl⟩
  ·rw[aB h0] at e;have hz:so l i=0:=by omega
   have HZ:=aa hz;clear hz h0;by_cases hil:l.length≤i
   ·rw[cx hil] at e;rw[e];have k2:¬i<l.length:=by omega
    clear e;go_enter Tryz.func95,Tryz.ntmps95;go_wp2_with (go_at_call 130;with_reducible refine(qh l i _ hi hl).mono ?_;rintro e w' ⟨rfl,rfl⟩;rw[HZ.out]);go_ret;exact⟨rfl,rfl⟩
   ·obtain⟨c,hc⟩:∃c,l[i]? = some c:=⟨_,ax (by omega)⟩;rw[hc] at e;simp only at e;obtain⟨hb1,hb2⟩:=aC.1 hc;have k3:(i:Int)<(l.length:Int):=by omega
    have k4:(0:Int)≤(i:Int):=by omega
    have k5:i<l.length:=hb1;have hSj2:(ByteArray.mk l.toArray)[i]'(show i<l.length from hb1)=c:=hb2;clear hc hb2 hil
    cases hg:gF c
    ·have q1:(fp c==6)=false:=hg
     cases hs:sD c
     ·rw[aB (by simp[hs,hg])] at e;rw[e];have HS:=aa hs;clear hg hs e;go_enter Tryz.func95,Tryz.ntmps95
      go_wp2_with (first
        | (go_at_call 130;with_reducible refine(qh l i _ hi hl).mono ?_;rintro e w' ⟨rfl,rfl⟩;rw[HZ.out])
        | (go_at_call 85;refine(gQ c _).mono ?_;rintro e w' ⟨rfl,rfl⟩)
        | (go_at_call 64;refine(BU c _).mono ?_;rintro e w' ⟨rfl,rfl⟩;rw[HS.out]))
      go_ret;exact⟨rfl,rfl⟩
     ·rw[aE (.inl hs)] at e;rw[e];have HS:=aa hs;clear hg hs e;go_enter Tryz.func95,Tryz.ntmps95
      go_wp2_with (first
        | (go_at_call 130;with_reducible refine(qh l i _ hi hl).mono ?_;rintro e w' ⟨rfl,rfl⟩;rw[HZ.out])
        | (go_at_call 85;refine(gQ c _).mono ?_;rintro e w' ⟨rfl,rfl⟩)
        | (go_at_call 64;refine(BU c _).mono ?_;rintro e w' ⟨rfl,rfl⟩;rw[HS.out]))
      go_ret;exact⟨rfl,rfl⟩
    ·have q1:(fp c==6)=true:=hg;rw[aE (.inr hg)] at e;rw[e];clear hg e;go_enter Tryz.func95,Tryz.ntmps95
     go_wp2_with (first
       | (go_at_call 130;with_reducible refine(qh l i _ hi hl).mono ?_;rintro e w' ⟨rfl,rfl⟩;rw[HZ.out])
       | (go_at_call 85;refine(gQ c _).mono ?_;rintro e w' ⟨rfl,rfl⟩))
     go_ret;exact⟨rfl,rfl⟩
end Go.Proofs.YtcagfamdoaoimaaGreatDoor
