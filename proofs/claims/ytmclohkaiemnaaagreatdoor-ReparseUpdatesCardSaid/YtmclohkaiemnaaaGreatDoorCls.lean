/- Classes of bytes: the program's (class.Of, class.Ends) and the reference's (quillwortref04.In, Class, Ends) are one function of the byte. -/
import Derived.Test.YtmclohkaiemnaaaGreatDoorMem
import Derived.Test.YtmclohkaiemnaaaGreatDoorPl6
set_option linter.unusedVariables false
set_option linter.unusedSimpArgs false
set_option maxRecDepth 100000
set_option maxHeartbeats 8000000
namespace Go.Proofs.YtmclohkaiemnaaaGreatDoor
open Go.RowKit
variable {x:Bool} {a b:Int} (l:List UInt8) (c:UInt8) (p:UInt8→Bool) (z:Int) (i k:Nat) (w:World)
theorem uA :
    ls 109 #[.int .u8 (c.toNat:Int)] w (.int .i64 (fI c)):=by
  go_enter Tryz.func109,Tryz.ntmps109;go_wp2;all_goals go_ret
  all_goals refine⟨oo ?_,rfl⟩
  all_goals (show _=fI c)
  all_goals go_light
  all_goals try simp only[bA,aK,ne_eq] at *
  all_goals unfold fI
  all_goals (repeat (first|rw[aB (by omega)]|rw[aC (by omega)]))
theorem jE :
    ls 155 #[.int .u8 (c.toNat:Int)] w (.bool (iO c)):=by
  go_enter Tryz.func155,Tryz.ntmps155;go_wp2_with (go_at_call 109;refine(uA _ _).mono ?_;rintro e w' ⟨rfl,rfl⟩);all_goals go_ret
  all_goals refine⟨iU ?_,rfl⟩
  all_goals (show _=iO c)
  all_goals go_light
  all_goals try simp only[bA,aK,ne_eq] at *
  all_goals unfold iO
  all_goals (rw[cT];first|(simp_all;done)|(simp;omega)|omega)
theorem Mh (l:List UInt8) (w:World) (hl:l.length≤1000000) :
    ls 44 #[.int .u8 (c.toNat:Int),.string ⟨l.toArray⟩] w (.bool (vi c l)):=by
  go_enter Tryz.func44,Tryz.ntmps44;go_wp2;go_loop [5] (fun i=>∃k:Nat,k≤l.length∧i=.int .i64 k∧vi c (l.take k)=false) (fun i=>l.length-(intOf i).toNat)
  case atStart=>exact⟨0,by omega,rfl,rfl⟩
  case round=>
    obtain⟨k,hk,rfl,hin⟩:=hrel;have Hin:=ac hin;clear hin;by_cases hlt:k<l.length
    ·go_wp2
     ·go_ret;simp only[uj,bA] at *;refine⟨iU ?_,trivial⟩;refine(yD c l (k+1) ?_).symm;rw[yC c l k hlt]
      have:(l[k]).toNat=c.toNat:=by omega
      simp[this]
     ·simp only[uj,aK,ne_eq] at *;refine⟨⟨k+1,by omega,by go_num,?_⟩,by simp[intOf];omega⟩;rw[yC c l k hlt,Hin.out]
      have:¬(l[k]).toNat=c.toNat:=by omega
      simp[this]
    ·go_wp2;go_ret;refine⟨iU ?_,rfl⟩
     have:=Hin.out
     rw[bR (by omega)] at this;exact this.symm
theorem qJ :
    ls 127 #[.int .u8 (c.toNat:Int)] w (.int .i64 (fI c)):=by
  rw[←GU];go_enter Tryz.func127,Tryz.ntmps127;go_wp2_with (go_at_call 44;refine(Mh c _ _ (by decide)).mono ?_;rintro e w' ⟨rfl,rfl⟩);all_goals go_ret
  all_goals refine⟨oo ?_,by first|rfl|trivial⟩
  all_goals (show _=Ci c)
  all_goals go_light
  all_goals try simp only[bA,aK,ne_eq] at *
  all_goals unfold Ci FS BU yA BV
  all_goals (repeat (first|rw[aB (by first|omega|assumption)]|rw[aC (by first|omega|simp[*])]))
theorem Bi (p:UInt8→Bool):∀(l:List UInt8) (k:Nat),k<(l.takeWhile p).length→∃c,l[k]? = some c∧p c=true
  | [],k,h=>by simp at h
  | c::l,k,h=>by
    by_cases hc:p c=true
    ·rw[dj hc] at h
     cases k with
     | zero=>exact⟨c,rfl,hc⟩
     | succ k=>simpa using Bi p l k (by simpa using h)
    ·rw[cV hc] at h;simp at h
theorem Bl (p:UInt8→Bool):∀(l:List UInt8) (c:UInt8),l[(l.takeWhile p).length]? = some c→p c=false
  | [],c,h=>by simp at h
  | d::l,c,h=>by
    by_cases hd:p d=true
    ·rw[dj hd] at h;exact Bl p l c (by simpa using h)
    ·rw[cV hd] at h;simp at h;subst h;simpa using hd
def Ka (q:fP) (t:Int):fP:={q with to:=t,op:=false}
def fL (p:UInt8→Bool) (l:List UInt8) (i:Nat):Nat:=((l.drop i).takeWhile p).length
theorem jx (l:List UInt8) (i:Nat):fL p l i≤l.length-i:=by
  unfold fL;have h1:((l.drop i).takeWhile p).length≤(l.drop i).length:=(List.takeWhile_prefix p).length_le;simpa using h1
theorem tI:ls 209 #[.int .u8 (c.toNat:Int)] w (.bool (jD c)):=by
  go_enter Tryz.func209,Tryz.ntmps209;go_wp2_with (go_at_call 109;refine(uA c _).mono ?_;rintro e w' ⟨rfl,rfl⟩);go_ret;exact⟨rfl,rfl⟩
theorem wO:ls 154 #[.int .u8 (c.toNat:Int)] w (.bool (jh c)):=by
  go_enter Tryz.func154,Tryz.ntmps154;go_wp2_with (go_at_call 109;refine(uA c _).mono ?_;rintro e w' ⟨rfl,rfl⟩);go_ret;exact⟨rfl,rfl⟩
theorem BR:ls 210 #[.int .u8 (c.toNat:Int)] w (.bool (iN c)):=by
  cases hl:jD c;all_goals (
    have HL:=ac hl;clear hl;go_enter Tryz.func210,Tryz.ntmps210
    go_wp2_with (first
      | (go_at_call 209;refine(tI c _).mono ?_;rintro e w' ⟨rfl,rfl⟩;rw[HL.out])
      | (go_at_call 154;refine(wO c _).mono ?_;rintro e w' ⟨rfl,rfl⟩))
    go_ret;exact⟨iU (by unfold iN;rw[HL.out];rfl),rfl⟩)
theorem xB (hi:i≤100000) (hl:l.length≤100000) :
    ls 153 #[.string ⟨l.toArray⟩,.int .i64 (i:Int),.func (.func 209) #[] #[]] w (.int .i64 (fL jD l i:Int)):=by
  have k0:decide ((i:Int)<0)=false:=by simp
  by_cases hil:l.length≤i
  ·have k1:decide ((l.length:Int)≤(i:Int))=true:=by simp;omega
   have e:fL jD l i=0:=by have:=jx jD l i;omega
   rw[e];clear e;go_enter Tryz.func153,Tryz.ntmps153;go_wp2;go_step3;go_wp2;try rw[bK]
   go_ret;exact⟨rfl,rfl⟩
  ·have k1:decide ((l.length:Int)≤(i:Int))=false:=by simp;omega
   have hsl:=jx jD l i;have hlt:∀k,k<fL jD l i→∃c,l[i+k]? = some c∧jD c=true:=fun k hk=>by
     have:=Bi jD (l.drop i) k hk
     simpa [bv] using this
   have hat:∀c,l[i+fL jD l i]? = some c→jD c=false:=fun c hc=>Bl jD (l.drop i) c (by rw[bv];exact hc)
   generalize hm:fL jD l i=m at *;have H:=ac (ae hlt hat);clear hlt hat hm;go_enter Tryz.func153,Tryz.ntmps153;go_wp2;go_step3;go_wp2;go_step3;go_wp2;go_loop [7] (fun n=>∃k:Nat,k≤m∧n=.int .i64 k) (fun n=>m-(intOf n).toNat)
   case atStart=>exact⟨0,by omega,rfl⟩
   case round=>
     obtain⟨k,hk,rfl⟩:=hrel;by_cases hkm:k<m
     ·obtain⟨c,hc,hp⟩:=H.out.1 k hkm;obtain⟨hb1,hb2⟩:=az.1 hc;have hSj2:(ByteArray.mk l.toArray)[i+k]'(show i+k<l.length from hb1)=c:=hb2;have k2:(i:Int)+(k:Int)<(l.length:Int):=by omega
      have k3:(0:Int)≤(i:Int)+(k:Int):=by omega
      have k4:((i:Int)+(k:Int)).toNat=i+k:=by omega
      have HP:=ac hp;clear hc hb2 hp;go_wp2_with (go_at_call 209;refine(tI c _).mono ?_;rintro e w' ⟨rfl,rfl⟩;rw[HP.out]);exact⟨⟨k+1,by omega,by go_num⟩,by simp[intOf];omega⟩
     ·obtain rfl:k=m:=by omega
      by_cases hend:i+k=l.length
      ·have k2:¬(i:Int)+(k:Int)<(l.length:Int):=by omega
       go_wp2;try rw[bK]
       go_ret;exact⟨rfl,rfl⟩
      ·obtain⟨c,hc⟩:∃c,l[i+k]? = some c:=⟨_,ax (by omega)⟩;have hp:=H.out.2 c hc;obtain⟨hb1,hb2⟩:=az.1 hc;have hSj2:(ByteArray.mk l.toArray)[i+k]'(show i+k<l.length from hb1)=c:=hb2;have k2:(i:Int)+(k:Int)<(l.length:Int):=by omega
       have k3:(0:Int)≤(i:Int)+(k:Int):=by omega
       have k4:((i:Int)+(k:Int)).toNat=i+k:=by omega
       have HP:=ac hp;clear hc hb2 hp;go_wp2_with (go_at_call 209;refine(tI c _).mono ?_;rintro e w' ⟨rfl,rfl⟩;rw[HP.out]);try rw[bK]
       go_ret;exact⟨rfl,rfl⟩
theorem Ec (hi:i≤100000) (hl:l.length≤100000) :
    ls 153 #[.string ⟨l.toArray⟩,.int .i64 (i:Int),.func (.func 210) #[] #[]] w (.int .i64 (fL iN l i:Int)):=by
  have k0:decide ((i:Int)<0)=false:=by simp
  by_cases hil:l.length≤i
  ·have k1:decide ((l.length:Int)≤(i:Int))=true:=by simp;omega
   have e:fL iN l i=0:=by have:=jx iN l i;omega
   rw[e];clear e;go_enter Tryz.func153,Tryz.ntmps153;go_wp2;go_step3;go_wp2;try rw[bK]
   go_ret;exact⟨rfl,rfl⟩
  ·have k1:decide ((l.length:Int)≤(i:Int))=false:=by simp;omega
   have hsl:=jx iN l i;have hlt:∀k,k<fL iN l i→∃c,l[i+k]? = some c∧iN c=true:=fun k hk=>by
     have:=Bi iN (l.drop i) k hk
     simpa [bv] using this
   have hat:∀c,l[i+fL iN l i]? = some c→iN c=false:=fun c hc=>Bl iN (l.drop i) c (by rw[bv];exact hc)
   generalize hm:fL iN l i=m at *;have H:=ac (ae hlt hat);clear hlt hat hm;go_enter Tryz.func153,Tryz.ntmps153;go_wp2;go_step3;go_wp2;go_step3;go_wp2;go_loop [7] (fun n=>∃k:Nat,k≤m∧n=.int .i64 k) (fun n=>m-(intOf n).toNat)
   case atStart=>exact⟨0,by omega,rfl⟩
   case round=>
     obtain⟨k,hk,rfl⟩:=hrel;by_cases hkm:k<m
     ·obtain⟨c,hc,hp⟩:=H.out.1 k hkm;obtain⟨hb1,hb2⟩:=az.1 hc;have hSj2:(ByteArray.mk l.toArray)[i+k]'(show i+k<l.length from hb1)=c:=hb2;have k2:(i:Int)+(k:Int)<(l.length:Int):=by omega
      have k3:(0:Int)≤(i:Int)+(k:Int):=by omega
      have k4:((i:Int)+(k:Int)).toNat=i+k:=by omega
      have HP:=ac hp;clear hc hb2 hp;go_wp2_with (go_at_call 210;refine(BR c _).mono ?_;rintro e w' ⟨rfl,rfl⟩;rw[HP.out]);exact⟨⟨k+1,by omega,by go_num⟩,by simp[intOf];omega⟩
     ·obtain rfl:k=m:=by omega
      by_cases hend:i+k=l.length
      ·have k2:¬(i:Int)+(k:Int)<(l.length:Int):=by omega
       go_wp2;try rw[bK]
       go_ret;exact⟨rfl,rfl⟩
      ·obtain⟨c,hc⟩:∃c,l[i+k]? = some c:=⟨_,ax (by omega)⟩;have hp:=H.out.2 c hc;obtain⟨hb1,hb2⟩:=az.1 hc;have hSj2:(ByteArray.mk l.toArray)[i+k]'(show i+k<l.length from hb1)=c:=hb2;have k2:(i:Int)+(k:Int)<(l.length:Int):=by omega
       have k3:(0:Int)≤(i:Int)+(k:Int):=by omega
       have k4:((i:Int)+(k:Int)).toNat=i+k:=by omega
       have HP:=ac hp;clear hc hb2 hp;go_wp2_with (go_at_call 210;refine(BR c _).mono ?_;rintro e w' ⟨rfl,rfl⟩;rw[HP.out]);try rw[bK]
       go_ret;exact⟨rfl,rfl⟩
theorem Ee (hi:i≤100000) (hl:l.length≤100000) :
    ls 153 #[.string ⟨l.toArray⟩,.int .i64 (i:Int),.func (.func 154) #[] #[]] w (.int .i64 (fL jh l i:Int)):=by
  have k0:decide ((i:Int)<0)=false:=by simp
  by_cases hil:l.length≤i
  ·have k1:decide ((l.length:Int)≤(i:Int))=true:=by simp;omega
   have e:fL jh l i=0:=by have:=jx jh l i;omega
   rw[e];clear e;go_enter Tryz.func153,Tryz.ntmps153;go_wp2;go_step3;go_wp2;try rw[bK]
   go_ret;exact⟨rfl,rfl⟩
  ·have k1:decide ((l.length:Int)≤(i:Int))=false:=by simp;omega
   have hsl:=jx jh l i;have hlt:∀k,k<fL jh l i→∃c,l[i+k]? = some c∧jh c=true:=fun k hk=>by
     have:=Bi jh (l.drop i) k hk
     simpa [bv] using this
   have hat:∀c,l[i+fL jh l i]? = some c→jh c=false:=fun c hc=>Bl jh (l.drop i) c (by rw[bv];exact hc)
   generalize hm:fL jh l i=m at *;have H:=ac (ae hlt hat);clear hlt hat hm;go_enter Tryz.func153,Tryz.ntmps153;go_wp2;go_step3;go_wp2;go_step3;go_wp2;go_loop [7] (fun n=>∃k:Nat,k≤m∧n=.int .i64 k) (fun n=>m-(intOf n).toNat)
   case atStart=>exact⟨0,by omega,rfl⟩
   case round=>
     obtain⟨k,hk,rfl⟩:=hrel;by_cases hkm:k<m
     ·obtain⟨c,hc,hp⟩:=H.out.1 k hkm;obtain⟨hb1,hb2⟩:=az.1 hc;have hSj2:(ByteArray.mk l.toArray)[i+k]'(show i+k<l.length from hb1)=c:=hb2;have k2:(i:Int)+(k:Int)<(l.length:Int):=by omega
      have k3:(0:Int)≤(i:Int)+(k:Int):=by omega
      have k4:((i:Int)+(k:Int)).toNat=i+k:=by omega
      have HP:=ac hp;clear hc hb2 hp;go_wp2_with (go_at_call 154;refine(wO c _).mono ?_;rintro e w' ⟨rfl,rfl⟩;rw[HP.out]);exact⟨⟨k+1,by omega,by go_num⟩,by simp[intOf];omega⟩
     ·obtain rfl:k=m:=by omega
      by_cases hend:i+k=l.length
      ·have k2:¬(i:Int)+(k:Int)<(l.length:Int):=by omega
       go_wp2;try rw[bK]
       go_ret;exact⟨rfl,rfl⟩
      ·obtain⟨c,hc⟩:∃c,l[i+k]? = some c:=⟨_,ax (by omega)⟩;have hp:=H.out.2 c hc;obtain⟨hb1,hb2⟩:=az.1 hc;have hSj2:(ByteArray.mk l.toArray)[i+k]'(show i+k<l.length from hb1)=c:=hb2;have k2:(i:Int)+(k:Int)<(l.length:Int):=by omega
       have k3:(0:Int)≤(i:Int)+(k:Int):=by omega
       have k4:((i:Int)+(k:Int)).toNat=i+k:=by omega
       have HP:=ac hp;clear hc hb2 hp;go_wp2_with (go_at_call 154;refine(wO c _).mono ?_;rintro e w' ⟨rfl,rfl⟩;rw[HP.out]);try rw[bK]
       go_ret;exact⟨rfl,rfl⟩
def uZ (l:List UInt8) (i:Nat):Nat:=if fL jD l i=0 then 0 else fL iN l i
theorem uJ (l:List UInt8) (i:Nat):fL p l i=0↔∀c,l[i]? = some c→p c=false:=by
  unfold fL;have e:(l.drop i)[0]? = l[i]? := by rw[bv];rfl
  rw[←e]
  cases h:l.drop i with
  | nil=>simp
  | cons d m=>
    by_cases hd:p d=true
    ·simp[dj hd,hd]
    ·simp[cV hd,hd]
theorem wB:uZ l i=oD (l.drop i):=by
  unfold uZ oD;have e:(l.drop i)[0]? = l[i]? := by rw[bv];rfl
  by_cases h:fL jD l i=0
  ·rw[aB h];rw[uJ] at h;rw[←e] at h
   cases hd:l.drop i with
   | nil=>rfl
   | cons d m=>
     rw[hd] at h;simp only;rw[aC (by rw[h d rfl];simp)]
  ·rw[aC h];unfold fL at h ⊢
   cases hd:l.drop i with
   | nil=>rw[hd] at h;simp at h
   | cons d m=>
     rw[hd] at h;have hl:jD d=true:=by
       by_cases hc:jD d=true
       ·exact hc
       ·rw[cV hc] at h;simp at h
     simp only;rw[aB hl]
theorem wA:uZ l i≤l.length-i:=by
  unfold uZ;split
  ·omega
  ·exact jx _ _ _
theorem BJ:rj l i=if 0<uZ l i then uZ l i else match l[i]? with
    | none=>0
    | some c=>if xA c=true∨jh c=true then 1 else 0:=by
  unfold rj yc;rw[wB];have e:(l.drop i)[0]? = l[i]? := by rw[bv];rfl
  rw[←e]
  cases l.drop i<;>rfl
theorem BH:rj l i≤l.length-i:=by
  rw[BJ];split
  ·exact wA _ _
  ·cases h:l[i]? with
   | none=>simp
   | some c=>
     have:=(az.1 h).1
     simp only;split<;>omega
theorem po (hi:i≤100000) (hl:l.length≤100000) :
    ls 203 #[.string ⟨l.toArray⟩,.int .i64 (i:Int)] w (.int .i64 (uZ l i:Int)):=by
  unfold uZ;by_cases h0:fL jD l i=0
  ·rw[aB h0];have k0:((fL jD l i:Int)==0)=true:=by simp[h0]
   clear h0;go_enter Tryz.func203,Tryz.ntmps203;go_wp2_with (go_at_call 153;with_reducible refine(xB l i _ hi hl).mono ?_;rintro e w' ⟨rfl,rfl⟩);go_ret;exact⟨rfl,rfl⟩
  ·rw[aC h0];have k0:((fL jD l i:Int)==0)=false:=by simp[h0]
   clear h0;go_enter Tryz.func203,Tryz.ntmps203
   go_wp2_with (first
     | (go_at_call 153;with_reducible refine(xB l i _ hi hl).mono ?_;rintro e w' ⟨rfl,rfl⟩)
     | (go_at_call 153;with_reducible refine(Ec l i _ hi hl).mono ?_;rintro e w' ⟨rfl,rfl⟩))
   go_ret;exact⟨rfl,rfl⟩
theorem mC (hi:i≤100000) (hl:l.length≤100000) :
    ls 130 #[.string ⟨l.toArray⟩,.int .i64 (i:Int)] w (.int .i64 (fL jh l i:Int)):=by
  go_enter Tryz.func130,Tryz.ntmps130;go_wp2_with (go_at_call 153;with_reducible refine(Ee l i _ hi hl).mono ?_;rintro e w' ⟨rfl,rfl⟩);go_ret;exact⟨rfl,rfl⟩
theorem LE (h:xA c=true):c=64∨c=42∨c=35∨c=63∨c=45∨c=36∨c=33:=by
  have:=gh (fun c => !xA c||(c==64||c==42||c==35||c==63||c==45||c==36||c==33)) (by decide +kernel) c
  simpa [h,or_assoc] using this
theorem IC (h:xA c=false):((c.toNat:Int)==64)=false∧((c.toNat:Int)==42)=false∧((c.toNat:Int)==35)=false∧((c.toNat:Int)==63)=false∧((c.toNat:Int)==45)=false∧((c.toNat:Int)==36)=false∧((c.toNat:Int)==33)=false:=by
  have:=gh (fun c=>xA c||(((c.toNat:Int)==64)==false&&((c.toNat:Int)==42)==false&&((c.toNat:Int)==35)==false&&((c.toNat:Int)==63)==false&&((c.toNat:Int)==45)==false&&((c.toNat:Int)==36)==false&&((c.toNat:Int)==33)==false)) (by decide +kernel) c
  simpa [h,and_assoc] using this
theorem Jh (hi:i≤100000) (hl:l.length≤100000) :
    ls 195 #[.string ⟨l.toArray⟩,.int .i64 (i:Int)] w (.int .i64 (rj l i:Int)):=by
  have e:=BJ l i;have k0:decide ((i:Int)<0)=false:=by simp
  by_cases h0:0<uZ l i
  ·rw[aB h0] at e;rw[e];have k1:decide ((0:Int)<(uZ l i:Int))=true:=by simp;omega
   clear e;go_enter Tryz.func195,Tryz.ntmps195;go_wp2_with (go_at_call 203;with_reducible refine(po l i _ hi hl).mono ?_;rintro e w' ⟨rfl,rfl⟩);go_ret;exact⟨rfl,rfl⟩
  ·rw[aC h0] at e;have k1:decide ((0:Int)<(uZ l i:Int))=false:=by simp;omega
   by_cases hil:l.length≤i
   ·rw[bI hil] at e;rw[e];have k2:decide ((l.length:Int)≤(i:Int))=true:=by simp;omega
    clear e;go_enter Tryz.func195,Tryz.ntmps195;go_wp2_with (go_at_call 203;with_reducible refine(po l i _ hi hl).mono ?_;rintro e w' ⟨rfl,rfl⟩);go_ret;exact⟨rfl,rfl⟩
   ·obtain⟨c,hc⟩:∃c,l[i]? = some c:=⟨_,ax (by omega)⟩;rw[hc] at e;simp only at e;have hd:=uJ jh l i;rw[hc] at hd;obtain⟨hb1,hb2⟩:=az.1 hc;have k2:decide ((l.length:Int)≤(i:Int))=false:=by simp;omega
    have k3:(i:Int)<(l.length:Int):=by omega
    have k4:(0:Int)≤(i:Int):=by omega
    have hSj2:(ByteArray.mk l.toArray)[i]'(show i<l.length from hb1)=c:=hb2;clear hc hb2;by_cases hs:xA c=true
    ·rw[aB (.inl hs)] at e;rw[e];clear e hd;rcases LE c hs with rfl|rfl|rfl|rfl|rfl|rfl|rfl
     all_goals (
       clear hs;go_enter Tryz.func195,Tryz.ntmps195;go_wp2_with (go_at_call 203;with_reducible refine(po l i _ hi hl).mono ?_;rintro e w' ⟨rfl,rfl⟩);go_ret;exact⟨rfl,rfl⟩)
    ·have hs':xA c=false:=by simpa using hs
     obtain⟨s1,s2,s3,s4,s5,s6,s7⟩:=IC c hs';by_cases hg:jh c=true
     ·rw[aB (.inr hg)] at e;have hn:fL jh l i≠0:=fun h=>by have:=hd.1 h c rfl;rw[hg] at this;cases this
      have k5:decide ((1:Int)≤(fL jh l i:Int))=true:=by simp;omega
      have k6:min (fL jh l i:Int) 1=1:=by omega
      rw[e];have HX:=ac hn;clear e hd hs hs' hg hn k6;go_enter Tryz.func195,Tryz.ntmps195
      go_wp2_with (first
        | (go_at_call 203;with_reducible refine(po l i _ hi hl).mono ?_;rintro e w' ⟨rfl,rfl⟩)
        | (go_at_call 130;with_reducible refine(mC l i _ hi hl).mono ?_;rintro e w' ⟨rfl,rfl⟩))
      all_goals (
        go_ret;exact⟨oo (by have:=HX.out;first|rfl|omega),rfl⟩)
     ·rw[aC (fun h=>by rcases h with h|h;exact hs h;exact hg h)] at e;have hn:fL jh l i=0:=hd.2 (fun d hd'=>by cases hd';simpa using hg);have hz:=ac hn;rw[e];clear hd hs hs' hg hn;go_enter Tryz.func195,Tryz.ntmps195
      go_wp2_with (first
        | (go_at_call 203;with_reducible refine(po l i _ hi hl).mono ?_;rintro e w' ⟨rfl,rfl⟩)
        | (go_at_call 130;with_reducible refine(mC l i _ hi hl).mono ?_;rintro e w' ⟨rfl,rfl⟩;rw[hz.out]))
      go_ret;exact⟨rfl,rfl⟩
theorem Ji (h0:0≤z) (h1:z≤100000) (hl:l.length≤100000) :
    ls 195 #[.string ⟨l.toArray⟩,.int .i64 z] w (.int .i64 (rj l z.toNat:Int)):=by
  obtain⟨i,rfl⟩:=Int.eq_ofNat_of_zero_le h0;exact Jh l i w (by omega) hl
def lR (l:List UInt8):Bool:=match l with
  | []=>false
  | c::r=>jD c&&r.all iN
theorem rQ (h:(a==b)=x):(a != b) = !x:=by rw[←h];rfl
theorem yz (hl:l.length≤100000) :
    ls 102 #[.string ⟨l.toArray⟩] w (.bool (lR l)):=by
  cases l with
  | nil=>
    go_enter Tryz.func102,Tryz.ntmps102;go_wp2;go_ret;exact⟨rfl,rfl⟩
  | cons c r=>
    obtain⟨m,hm⟩:∃m:List UInt8,m=c::r:=⟨_,rfl⟩;have hlen:m.length=r.length+1:=by rw[hm];rfl
    have hl0:((m.length:Int)==0)=false:=by rw[aK];omega
    have hl1:(0:Int)<(m.length:Int):=by omega
    have hl2:0<m.length:=by omega
    have hb0:∃h:0<(ByteArray.mk m.toArray).size,(ByteArray.mk m.toArray)[0]'h=c:=⟨hl2,by subst hm;rfl⟩;obtain⟨hb1,hb2⟩:=hb0;have hat:∀k,m[k+1]? = r[k]? := by intro k;subst hm;rfl
    have hres:lR (c::r)=(jD c&&r.all iN):=rfl;rw[hres,←hm];have hl':m.length≤100000:=by rw[hm];exact hl
    have HA:=ac hat;clear hat hl hres;by_cases hc:jD c=true
    ·have hc5:(fI c==5)=true:=hc;have hn5:(fI c != 5)=false:=rQ hc5;rw[hc,cN];clear hm hc;have HLE:=ac hlen;clear hlen;go_enter Tryz.func102,Tryz.ntmps102;go_wp2_with (go_at_call 127;refine(qJ c _).mono ?_;rintro e w' ⟨rfl,rfl⟩);go_loop [3] (fun i=>∃k:Nat,k≤r.length∧i=.int .i64 ((k:Int)+1)∧(r.take k).all iN=true) (fun i=>r.length+1-(intOf i).toNat)
     case atStart=>exact⟨0,by omega,rfl,rfl⟩
     case round=>
       obtain⟨k,hk,rfl,hp⟩:=hrel;have HP:=ac hp;clear hp;by_cases hlt:k<r.length
       ·obtain⟨d,hd⟩:∃d,r[k]? = some d:=⟨_,ax hlt⟩;have hdm:m[k+1]? = some d:=by rw[HA.out,hd]
        obtain⟨g1,g2⟩:=az.1 hdm;have g3:(ByteArray.mk m.toArray)[k+1]'(show k+1<m.length from g1)=d:=g2;have k1:(k:Int)+1<(m.length:Int):=by omega
        have k2:(0:Int)≤(k:Int)+1:=by omega
        have k3:((k:Int)+1).toNat=k+1:=by omega
        have HD:=ac hd;clear g2 hd hdm
        cases hx:jD d
        ·have q1:(fI d==5)=false:=hx;have q2:(fI d != 5)=true:=rQ q1
         cases hy:jh d
         ·have q3:(fI d==6)=false:=hy;have q4:(fI d != 6)=true:=rQ q3;have HX:=ac (ae hx hy);clear hx hy;go_wp2_with (go_at_call 127;refine(qJ d _).mono ?_;rintro e w' ⟨rfl,rfl⟩);go_ret;refine⟨iU ?_,rfl⟩
          symm
          rw[List.all_eq_false];exact⟨d,aI HD.out,by simp[iN,HX.out.1,HX.out.2]⟩
         ·have q3:(fI d==6)=true:=hy;have q4:(fI d != 6)=false:=rQ q3;have HX:=ac (ae hx hy);clear hx hy;go_wp2_with (go_at_call 127;refine(qJ d _).mono ?_;rintro e w' ⟨rfl,rfl⟩);refine⟨⟨k+1,by omega,by go_num,?_⟩,by simp[intOf];omega⟩;obtain⟨t1,t2⟩:=az.1 HD.out;rw[bS t1,t2,List.all_append,HP.out];simp[iN,HX.out.1,HX.out.2]
        ·have q1:(fI d==5)=true:=hx;have q2:(fI d != 5)=false:=rQ q1;have HX:=ac hx;clear hx;go_wp2_with (go_at_call 127;refine(qJ d _).mono ?_;rintro e w' ⟨rfl,rfl⟩);refine⟨⟨k+1,by omega,by go_num,?_⟩,by simp[intOf];omega⟩;obtain⟨t1,t2⟩:=az.1 HD.out;rw[bS t1,t2,List.all_append,HP.out];simp[iN,HX.out]
       ·have k1:¬(k:Int)+1<(m.length:Int):=by have:=HLE.out;omega
        go_wp2;go_ret;refine⟨iU ?_,rfl⟩
        have:=HP.out
        rw[bR (by omega)] at this;exact this.symm
    ·have hc':jD c=false:=by simpa using hc
     have hc5:(fI c==5)=false:=hc';have hn5:(fI c != 5)=true:=rQ hc5;rw[hc',dC];clear hm hc hc';go_enter Tryz.func102,Tryz.ntmps102;go_wp2_with (go_at_call 127;refine(qJ c _).mono ?_;rintro e w' ⟨rfl,rfl⟩);go_ret;exact⟨rfl,rfl⟩
theorem zg {p:UInt8→Bool}:∀(l:List UInt8) (k:Nat),k≤l.length→((l.take k).all p=true↔k≤(l.takeWhile p).length)
  | [],k,h=>by simp at h;subst h;simp
  | c::l,0,_=>by simp
  | c::l,k+1,h=>by
    by_cases hc:p c=true
    ·rw[dj hc,cP,List.all_cons,hc,cN,zg l k (by simpa using h)];simp
    ·rw[cV hc,cP,List.all_cons];simp[hc]
theorem lQ (h1:1≤k) (hk:k≤l.length):lR (l.take k)=decide (k≤oD l):=by
  cases l with
  | nil=>simp at hk;omega
  | cons c r=>
    obtain⟨k,rfl⟩:∃k',k=k'+1:=⟨k-1,by omega⟩;rw[cP];unfold lR oD;by_cases hc:jD c=true
    ·have hn:iN c=true:=by simp[iN,hc]
     simp only[hc,cN,bP];rw[dj hn,cT,zg r k (by simpa using hk)];simp
    ·simp[hc]
end Go.Proofs.YtmclohkaiemnaaaGreatDoor
