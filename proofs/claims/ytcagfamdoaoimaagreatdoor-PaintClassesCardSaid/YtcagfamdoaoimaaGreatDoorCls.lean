/- Classes of bytes: the program's (class.Of, class.Ends) and the reference's (quillwortref04.In, Class, Ends) are one function of the byte. -/
import Derived.Test.YtcagfamdoaoimaaGreatDoorMem
import Derived.Test.YtcagfamdoaoimaaGreatDoorPl6
set_option linter.unusedVariables false
set_option linter.unusedSimpArgs false
set_option maxRecDepth 100000
set_option maxHeartbeats 8000000
namespace Go.Proofs.YtcagfamdoaoimaaGreatDoor
open Go.RowKit
variable {x:Bool} {a b:Int} (l:List UInt8) (c:UInt8) (p:UInt8→Bool) (z:Int) (i k:Nat) (w:World)
theorem uS :
    iH 120 #[.int .u8 (c.toNat:Int)] w (.int .i64 (fi c)):=by
  go_enter Tryz.func120,Tryz.ntmps120;go_wp2;all_goals go_ret
  all_goals refine⟨iT ?_,rfl⟩
  all_goals (show _=fi c)
  all_goals go_light
  all_goals try simp only[aN,ay,dE] at *
  all_goals unfold fi
  all_goals (repeat (first|rw[aC (by omega)]|rw[aB (by omega)]))
theorem js :
    iH 226 #[.int .u8 (c.toNat:Int)] w (.bool (gY c)):=by
  go_enter Tryz.func226,Tryz.ntmps226;go_wp2_with (go_at_call 120;refine(uS _ _).mono ?_;rintro e w' ⟨rfl,rfl⟩);all_goals go_ret
  all_goals refine⟨jW ?_,rfl⟩
  all_goals (show _=gY c)
  all_goals go_light
  all_goals try simp only[aN,ay,dE] at *
  all_goals unfold gY
  all_goals (rw[aV];first|(simp_all;done)|(simp;omega)|omega)
theorem JB (l:List UInt8) (w:World) (hl:l.length≤1000000) :
    iH 64 #[.int .u8 (c.toNat:Int),.string ⟨l.toArray⟩] w (.bool (uN c l)):=by
  go_enter Tryz.func64,Tryz.ntmps64;go_wp2;go_loop [5] (fun i=>∃k:Nat,k≤l.length∧i=.int .i64 k∧uN c (l.take k)=false) (fun i=>l.length-(intOf i).toNat)
  case atStart=>exact⟨0,by omega,rfl,rfl⟩
  case round=>
    obtain⟨k,hk,rfl,hin⟩:=hrel;have Hin:=aa hin;clear hin;by_cases hlt:k<l.length
    ·go_wp2
     ·go_ret;simp only[lO,aN] at *;refine⟨jW ?_,trivial⟩;refine(yN c l (k+1) ?_).symm;rw[yM c l k hlt]
      have:(l[k]).toNat=c.toNat:=by omega
      simp[this]
     ·simp only[lO,ay,dE] at *;refine⟨⟨k+1,by omega,by go_num,?_⟩,by simp[intOf];omega⟩;rw[yM c l k hlt,Hin.out]
      have:¬(l[k]).toNat=c.toNat:=by omega
      simp[this]
    ·go_wp2;go_ret;refine⟨jW ?_,rfl⟩
     have:=Hin.out
     rw[bF (by omega)] at this;exact this.symm
theorem ia :
    iH 85 #[.int .u8 (c.toNat:Int)] w (.int .i64 (fi c)):=by
  rw[←Hp];go_enter Tryz.func85,Tryz.ntmps85;go_wp2_with (go_at_call 64;refine(JB c _ _ (by decide)).mono ?_;rintro e w' ⟨rfl,rfl⟩);all_goals go_ret
  all_goals refine⟨iT ?_,by first|rfl|trivial⟩
  all_goals (show _=Cy c)
  all_goals go_light
  all_goals try simp only[aN,ay,dE] at *
  all_goals unfold Cy Gj Ch yK Ci
  all_goals (repeat (first|rw[aC (by first|omega|assumption)]|rw[aB (by first|omega|simp[*])]))
theorem BD (p:UInt8→Bool):∀(l:List UInt8) (k:Nat),k<(l.takeWhile p).length→∃c,l[k]? = some c∧p c=true
  | [],k,h=>by simp at h
  | c::l,k,h=>by
    by_cases hc:p c=true
    ·rw[dq hc] at h
     cases k with
     | zero=>exact⟨c,rfl,hc⟩
     | succ k=>simpa using BD p l k (by simpa using h)
    ·rw[dr hc] at h;simp at h
theorem BE (p:UInt8→Bool):∀(l:List UInt8) (c:UInt8),l[(l.takeWhile p).length]? = some c→p c=false
  | [],c,h=>by simp at h
  | d::l,c,h=>by
    by_cases hd:p d=true
    ·rw[dq hd] at h;exact BE p l c (by simpa using h)
    ·rw[dr hd] at h;simp at h;subst h;simpa using hd
def J4 (q:eV) (t:Int):eV:={q with to:=t,op:=false}
def fL (p:UInt8→Bool) (l:List UInt8) (i:Nat):Nat:=((l.drop i).takeWhile p).length
theorem iP (l:List UInt8) (i:Nat):fL p l i≤l.length-i:=by
  unfold fL;have h1:((l.drop i).takeWhile p).length≤(l.drop i).length:=(List.takeWhile_prefix p).length_le;simpa using h1
theorem tZ:iH 218 #[.int .u8 (c.toNat:Int)] w (.bool (jp c)):=by
  go_enter Tryz.func218,Tryz.ntmps218;go_wp2_with (go_at_call 120;refine(uS c _).mono ?_;rintro e w' ⟨rfl,rfl⟩);go_ret;exact⟨rfl,rfl⟩
theorem wS:iH 220 #[.int .u8 (c.toNat:Int)] w (.bool (gF c)):=by
  go_enter Tryz.func220,Tryz.ntmps220;go_wp2_with (go_at_call 120;refine(uS c _).mono ?_;rintro e w' ⟨rfl,rfl⟩);go_ret;exact⟨rfl,rfl⟩
theorem Ce:iH 219 #[.int .u8 (c.toNat:Int)] w (.bool (iM c)):=by
  cases hl:jp c;all_goals (
    have HL:=aa hl;clear hl;go_enter Tryz.func219,Tryz.ntmps219
    go_wp2_with (first
      | (go_at_call 218;refine(tZ c _).mono ?_;rintro e w' ⟨rfl,rfl⟩;rw[HL.out])
      | (go_at_call 220;refine(wS c _).mono ?_;rintro e w' ⟨rfl,rfl⟩))
    go_ret;exact⟨jW (by unfold iM;rw[HL.out];rfl),rfl⟩)
theorem xD (hi:i≤100000) (hl:l.length≤100000) :
    iH 217 #[.string ⟨l.toArray⟩,.int .i64 (i:Int),.func (.func 218) #[] #[]] w (.int .i64 (fL jp l i:Int)):=by
  have k0:decide ((i:Int)<0)=false:=by simp
  by_cases hil:l.length≤i
  ·have k1:decide ((l.length:Int)≤(i:Int))=true:=by simp;omega
   have e:fL jp l i=0:=by have:=iP jp l i;omega
   rw[e];clear e;go_enter Tryz.func217,Tryz.ntmps217;go_wp2;go_step3;go_wp2;try rw[bA]
   go_ret;exact⟨rfl,rfl⟩
  ·have k1:decide ((l.length:Int)≤(i:Int))=false:=by simp;omega
   have hsl:=iP jp l i;have hlt:∀k,k<fL jp l i→∃c,l[i+k]? = some c∧jp c=true:=fun k hk=>by
     have:=BD jp (l.drop i) k hk
     simpa [bU] using this
   have hat:∀c,l[i+fL jp l i]? = some c→jp c=false:=fun c hc=>BE jp (l.drop i) c (by rw[bU];exact hc)
   generalize hm:fL jp l i=m at *;have H:=aa (ac hlt hat);clear hlt hat hm;go_enter Tryz.func217,Tryz.ntmps217;go_wp2;go_step3;go_wp2;go_step3;go_wp2;go_loop [7] (fun n=>∃k:Nat,k≤m∧n=.int .i64 k) (fun n=>m-(intOf n).toNat)
   case atStart=>exact⟨0,by omega,rfl⟩
   case round=>
     obtain⟨k,hk,rfl⟩:=hrel;by_cases hkm:k<m
     ·obtain⟨c,hc,hp⟩:=H.out.1 k hkm;obtain⟨hb1,hb2⟩:=az.1 hc;have hSj2:(ByteArray.mk l.toArray)[i+k]'(show i+k<l.length from hb1)=c:=hb2;have k2:(i:Int)+(k:Int)<(l.length:Int):=by omega
      have k3:(0:Int)≤(i:Int)+(k:Int):=by omega
      have k4:((i:Int)+(k:Int)).toNat=i+k:=by omega
      have HP:=aa hp;clear hc hb2 hp;go_wp2_with (go_at_call 218;refine(tZ c _).mono ?_;rintro e w' ⟨rfl,rfl⟩;rw[HP.out]);exact⟨⟨k+1,by omega,by go_num⟩,by simp[intOf];omega⟩
     ·obtain rfl:k=m:=by omega
      by_cases hend:i+k=l.length
      ·have k2:¬(i:Int)+(k:Int)<(l.length:Int):=by omega
       go_wp2;try rw[bA]
       go_ret;exact⟨rfl,rfl⟩
      ·obtain⟨c,hc⟩:∃c,l[i+k]? = some c:=⟨_,ax (by omega)⟩;have hp:=H.out.2 c hc;obtain⟨hb1,hb2⟩:=az.1 hc;have hSj2:(ByteArray.mk l.toArray)[i+k]'(show i+k<l.length from hb1)=c:=hb2;have k2:(i:Int)+(k:Int)<(l.length:Int):=by omega
       have k3:(0:Int)≤(i:Int)+(k:Int):=by omega
       have k4:((i:Int)+(k:Int)).toNat=i+k:=by omega
       have HP:=aa hp;clear hc hb2 hp;go_wp2_with (go_at_call 218;refine(tZ c _).mono ?_;rintro e w' ⟨rfl,rfl⟩;rw[HP.out]);try rw[bA]
       go_ret;exact⟨rfl,rfl⟩
theorem Ep (hi:i≤100000) (hl:l.length≤100000) :
    iH 217 #[.string ⟨l.toArray⟩,.int .i64 (i:Int),.func (.func 219) #[] #[]] w (.int .i64 (fL iM l i:Int)):=by
  have k0:decide ((i:Int)<0)=false:=by simp
  by_cases hil:l.length≤i
  ·have k1:decide ((l.length:Int)≤(i:Int))=true:=by simp;omega
   have e:fL iM l i=0:=by have:=iP iM l i;omega
   rw[e];clear e;go_enter Tryz.func217,Tryz.ntmps217;go_wp2;go_step3;go_wp2;try rw[bA]
   go_ret;exact⟨rfl,rfl⟩
  ·have k1:decide ((l.length:Int)≤(i:Int))=false:=by simp;omega
   have hsl:=iP iM l i;have hlt:∀k,k<fL iM l i→∃c,l[i+k]? = some c∧iM c=true:=fun k hk=>by
     have:=BD iM (l.drop i) k hk
     simpa [bU] using this
   have hat:∀c,l[i+fL iM l i]? = some c→iM c=false:=fun c hc=>BE iM (l.drop i) c (by rw[bU];exact hc)
   generalize hm:fL iM l i=m at *;have H:=aa (ac hlt hat);clear hlt hat hm;go_enter Tryz.func217,Tryz.ntmps217;go_wp2;go_step3;go_wp2;go_step3;go_wp2;go_loop [7] (fun n=>∃k:Nat,k≤m∧n=.int .i64 k) (fun n=>m-(intOf n).toNat)
   case atStart=>exact⟨0,by omega,rfl⟩
   case round=>
     obtain⟨k,hk,rfl⟩:=hrel;by_cases hkm:k<m
     ·obtain⟨c,hc,hp⟩:=H.out.1 k hkm;obtain⟨hb1,hb2⟩:=az.1 hc;have hSj2:(ByteArray.mk l.toArray)[i+k]'(show i+k<l.length from hb1)=c:=hb2;have k2:(i:Int)+(k:Int)<(l.length:Int):=by omega
      have k3:(0:Int)≤(i:Int)+(k:Int):=by omega
      have k4:((i:Int)+(k:Int)).toNat=i+k:=by omega
      have HP:=aa hp;clear hc hb2 hp;go_wp2_with (go_at_call 219;refine(Ce c _).mono ?_;rintro e w' ⟨rfl,rfl⟩;rw[HP.out]);exact⟨⟨k+1,by omega,by go_num⟩,by simp[intOf];omega⟩
     ·obtain rfl:k=m:=by omega
      by_cases hend:i+k=l.length
      ·have k2:¬(i:Int)+(k:Int)<(l.length:Int):=by omega
       go_wp2;try rw[bA]
       go_ret;exact⟨rfl,rfl⟩
      ·obtain⟨c,hc⟩:∃c,l[i+k]? = some c:=⟨_,ax (by omega)⟩;have hp:=H.out.2 c hc;obtain⟨hb1,hb2⟩:=az.1 hc;have hSj2:(ByteArray.mk l.toArray)[i+k]'(show i+k<l.length from hb1)=c:=hb2;have k2:(i:Int)+(k:Int)<(l.length:Int):=by omega
       have k3:(0:Int)≤(i:Int)+(k:Int):=by omega
       have k4:((i:Int)+(k:Int)).toNat=i+k:=by omega
       have HP:=aa hp;clear hc hb2 hp;go_wp2_with (go_at_call 219;refine(Ce c _).mono ?_;rintro e w' ⟨rfl,rfl⟩;rw[HP.out]);try rw[bA]
       go_ret;exact⟨rfl,rfl⟩
theorem Eq (hi:i≤100000) (hl:l.length≤100000) :
    iH 217 #[.string ⟨l.toArray⟩,.int .i64 (i:Int),.func (.func 220) #[] #[]] w (.int .i64 (fL gF l i:Int)):=by
  have k0:decide ((i:Int)<0)=false:=by simp
  by_cases hil:l.length≤i
  ·have k1:decide ((l.length:Int)≤(i:Int))=true:=by simp;omega
   have e:fL gF l i=0:=by have:=iP gF l i;omega
   rw[e];clear e;go_enter Tryz.func217,Tryz.ntmps217;go_wp2;go_step3;go_wp2;try rw[bA]
   go_ret;exact⟨rfl,rfl⟩
  ·have k1:decide ((l.length:Int)≤(i:Int))=false:=by simp;omega
   have hsl:=iP gF l i;have hlt:∀k,k<fL gF l i→∃c,l[i+k]? = some c∧gF c=true:=fun k hk=>by
     have:=BD gF (l.drop i) k hk
     simpa [bU] using this
   have hat:∀c,l[i+fL gF l i]? = some c→gF c=false:=fun c hc=>BE gF (l.drop i) c (by rw[bU];exact hc)
   generalize hm:fL gF l i=m at *;have H:=aa (ac hlt hat);clear hlt hat hm;go_enter Tryz.func217,Tryz.ntmps217;go_wp2;go_step3;go_wp2;go_step3;go_wp2;go_loop [7] (fun n=>∃k:Nat,k≤m∧n=.int .i64 k) (fun n=>m-(intOf n).toNat)
   case atStart=>exact⟨0,by omega,rfl⟩
   case round=>
     obtain⟨k,hk,rfl⟩:=hrel;by_cases hkm:k<m
     ·obtain⟨c,hc,hp⟩:=H.out.1 k hkm;obtain⟨hb1,hb2⟩:=az.1 hc;have hSj2:(ByteArray.mk l.toArray)[i+k]'(show i+k<l.length from hb1)=c:=hb2;have k2:(i:Int)+(k:Int)<(l.length:Int):=by omega
      have k3:(0:Int)≤(i:Int)+(k:Int):=by omega
      have k4:((i:Int)+(k:Int)).toNat=i+k:=by omega
      have HP:=aa hp;clear hc hb2 hp;go_wp2_with (go_at_call 220;refine(wS c _).mono ?_;rintro e w' ⟨rfl,rfl⟩;rw[HP.out]);exact⟨⟨k+1,by omega,by go_num⟩,by simp[intOf];omega⟩
     ·obtain rfl:k=m:=by omega
      by_cases hend:i+k=l.length
      ·have k2:¬(i:Int)+(k:Int)<(l.length:Int):=by omega
       go_wp2;try rw[bA]
       go_ret;exact⟨rfl,rfl⟩
      ·obtain⟨c,hc⟩:∃c,l[i+k]? = some c:=⟨_,ax (by omega)⟩;have hp:=H.out.2 c hc;obtain⟨hb1,hb2⟩:=az.1 hc;have hSj2:(ByteArray.mk l.toArray)[i+k]'(show i+k<l.length from hb1)=c:=hb2;have k2:(i:Int)+(k:Int)<(l.length:Int):=by omega
       have k3:(0:Int)≤(i:Int)+(k:Int):=by omega
       have k4:((i:Int)+(k:Int)).toNat=i+k:=by omega
       have HP:=aa hp;clear hc hb2 hp;go_wp2_with (go_at_call 220;refine(wS c _).mono ?_;rintro e w' ⟨rfl,rfl⟩;rw[HP.out]);try rw[bA]
       go_ret;exact⟨rfl,rfl⟩
def rM (l:List UInt8) (i:Nat):Nat:=if fL jp l i=0 then 0 else fL iM l i
theorem ve (l:List UInt8) (i:Nat):fL p l i=0↔∀c,l[i]? = some c→p c=false:=by
  unfold fL;have e:(l.drop i)[0]? = l[i]? := by rw[bU];rfl
  rw[←e]
  cases h:l.drop i with
  | nil=>simp
  | cons d m=>
    by_cases hd:p d=true
    ·simp[dq hd,hd]
    ·simp[dr hd,hd]
theorem tV:rM l i=oQ (l.drop i):=by
  unfold rM oQ;have e:(l.drop i)[0]? = l[i]? := by rw[bU];rfl
  by_cases h:fL jp l i=0
  ·rw[aC h];rw[ve] at h;rw[←e] at h
   cases hd:l.drop i with
   | nil=>rfl
   | cons d m=>
     rw[hd] at h;simp only;rw[aB (by rw[h d rfl];simp)]
  ·rw[aB h];unfold fL at h ⊢
   cases hd:l.drop i with
   | nil=>rw[hd] at h;simp at h
   | cons d m=>
     rw[hd] at h;have hl:jp d=true:=by
       by_cases hc:jp d=true
       ·exact hc
       ·rw[dr hc] at h;simp at h
     simp only;rw[aC hl]
theorem tU:rM l i≤l.length-i:=by
  unfold rM;split
  ·omega
  ·exact iP _ _ _
theorem wD:pM l i=if 0<rM l i then rM l i else match l[i]? with
    | none=>0
    | some c=>if sI c=true∨gF c=true then 1 else 0:=by
  unfold pM yg;rw[tV];have e:(l.drop i)[0]? = l[i]? := by rw[bU];rfl
  rw[←e]
  cases l.drop i<;>rfl
theorem wC:pM l i≤l.length-i:=by
  rw[wD];split
  ·exact tU _ _
  ·cases h:l[i]? with
   | none=>simp
   | some c=>
     have:=(az.1 h).1
     simp only;split<;>omega
theorem pQ (hi:i≤100000) (hl:l.length≤100000) :
    iH 186 #[.string ⟨l.toArray⟩,.int .i64 (i:Int)] w (.int .i64 (rM l i:Int)):=by
  unfold rM;by_cases h0:fL jp l i=0
  ·rw[aC h0];have k0:((fL jp l i:Int)==0)=true:=by simp[h0]
   clear h0;go_enter Tryz.func186,Tryz.ntmps186;go_wp2_with (go_at_call 217;with_reducible refine(xD l i _ hi hl).mono ?_;rintro e w' ⟨rfl,rfl⟩);go_ret;exact⟨rfl,rfl⟩
  ·rw[aB h0];have k0:((fL jp l i:Int)==0)=false:=by simp[h0]
   clear h0;go_enter Tryz.func186,Tryz.ntmps186
   go_wp2_with (first
     | (go_at_call 217;with_reducible refine(xD l i _ hi hl).mono ?_;rintro e w' ⟨rfl,rfl⟩)
     | (go_at_call 217;with_reducible refine(Ep l i _ hi hl).mono ?_;rintro e w' ⟨rfl,rfl⟩))
   go_ret;exact⟨rfl,rfl⟩
theorem mT (hi:i≤100000) (hl:l.length≤100000) :
    iH 187 #[.string ⟨l.toArray⟩,.int .i64 (i:Int)] w (.int .i64 (fL gF l i:Int)):=by
  go_enter Tryz.func187,Tryz.ntmps187;go_wp2_with (go_at_call 217;with_reducible refine(Eq l i _ hi hl).mono ?_;rintro e w' ⟨rfl,rfl⟩);go_ret;exact⟨rfl,rfl⟩
theorem KY (h:sI c=true):c=64∨c=42∨c=35∨c=63∨c=45∨c=36∨c=33:=by
  have:=fh (fun c => !sI c||(c==64||c==42||c==35||c==63||c==45||c==36||c==33)) (by decide +kernel) c
  simpa [h,or_assoc] using this
theorem II (h:sI c=false):((c.toNat:Int)==64)=false∧((c.toNat:Int)==42)=false∧((c.toNat:Int)==35)=false∧((c.toNat:Int)==63)=false∧((c.toNat:Int)==45)=false∧((c.toNat:Int)==36)=false∧((c.toNat:Int)==33)=false:=by
  have:=fh (fun c=>sI c||(((c.toNat:Int)==64)==false&&((c.toNat:Int)==42)==false&&((c.toNat:Int)==35)==false&&((c.toNat:Int)==63)==false&&((c.toNat:Int)==45)==false&&((c.toNat:Int)==36)==false&&((c.toNat:Int)==33)==false)) (by decide +kernel) c
  simpa [h,and_assoc] using this
theorem Ji (hi:i≤100000) (hl:l.length≤100000) :
    iH 148 #[.string ⟨l.toArray⟩,.int .i64 (i:Int)] w (.int .i64 (pM l i:Int)):=by
  have e:=wD l i;have k0:decide ((i:Int)<0)=false:=by simp
  by_cases h0:0<rM l i
  ·rw[aC h0] at e;rw[e];have k1:decide ((0:Int)<(rM l i:Int))=true:=by simp;omega
   clear e;go_enter Tryz.func148,Tryz.ntmps148;go_wp2_with (go_at_call 186;with_reducible refine(pQ l i _ hi hl).mono ?_;rintro e w' ⟨rfl,rfl⟩);go_ret;exact⟨rfl,rfl⟩
  ·rw[aB h0] at e;have k1:decide ((0:Int)<(rM l i:Int))=false:=by simp;omega
   by_cases hil:l.length≤i
   ·rw[bZ hil] at e;rw[e];have k2:decide ((l.length:Int)≤(i:Int))=true:=by simp;omega
    clear e;go_enter Tryz.func148,Tryz.ntmps148;go_wp2_with (go_at_call 186;with_reducible refine(pQ l i _ hi hl).mono ?_;rintro e w' ⟨rfl,rfl⟩);go_ret;exact⟨rfl,rfl⟩
   ·obtain⟨c,hc⟩:∃c,l[i]? = some c:=⟨_,ax (by omega)⟩;rw[hc] at e;simp only at e;have hd:=ve gF l i;rw[hc] at hd;obtain⟨hb1,hb2⟩:=az.1 hc;have k2:decide ((l.length:Int)≤(i:Int))=false:=by simp;omega
    have k3:(i:Int)<(l.length:Int):=by omega
    have k4:(0:Int)≤(i:Int):=by omega
    have hSj2:(ByteArray.mk l.toArray)[i]'(show i<l.length from hb1)=c:=hb2;clear hc hb2;by_cases hs:sI c=true
    ·rw[aC (.inl hs)] at e;rw[e];clear e hd;rcases KY c hs with rfl|rfl|rfl|rfl|rfl|rfl|rfl
     all_goals (
       clear hs;go_enter Tryz.func148,Tryz.ntmps148;go_wp2_with (go_at_call 186;with_reducible refine(pQ l i _ hi hl).mono ?_;rintro e w' ⟨rfl,rfl⟩);go_ret;exact⟨rfl,rfl⟩)
    ·have hs':sI c=false:=by simpa using hs
     obtain⟨s1,s2,s3,s4,s5,s6,s7⟩:=II c hs';by_cases hg:gF c=true
     ·rw[aC (.inr hg)] at e;have hn:fL gF l i≠0:=fun h=>by have:=hd.1 h c rfl;rw[hg] at this;cases this
      have k5:decide ((1:Int)≤(fL gF l i:Int))=true:=by simp;omega
      have k6:min (fL gF l i:Int) 1=1:=by omega
      rw[e];have HX:=aa hn;clear e hd hs hs' hg hn k6;go_enter Tryz.func148,Tryz.ntmps148
      go_wp2_with (first
        | (go_at_call 186;with_reducible refine(pQ l i _ hi hl).mono ?_;rintro e w' ⟨rfl,rfl⟩)
        | (go_at_call 187;with_reducible refine(mT l i _ hi hl).mono ?_;rintro e w' ⟨rfl,rfl⟩))
      all_goals (
        go_ret;exact⟨iT (by have:=HX.out;first|rfl|omega),rfl⟩)
     ·rw[aB (fun h=>by rcases h with h|h;exact hs h;exact hg h)] at e;have hn:fL gF l i=0:=hd.2 (fun d hd'=>by cases hd';simpa using hg);have hz:=aa hn;rw[e];clear hd hs hs' hg hn;go_enter Tryz.func148,Tryz.ntmps148
      go_wp2_with (first
        | (go_at_call 186;with_reducible refine(pQ l i _ hi hl).mono ?_;rintro e w' ⟨rfl,rfl⟩)
        | (go_at_call 187;with_reducible refine(mT l i _ hi hl).mono ?_;rintro e w' ⟨rfl,rfl⟩;rw[hz.out]))
      go_ret;exact⟨rfl,rfl⟩
theorem Jj (h0:0≤z) (h1:z≤100000) (hl:l.length≤100000) :
    iH 148 #[.string ⟨l.toArray⟩,.int .i64 z] w (.int .i64 (pM l z.toNat:Int)):=by
  obtain⟨i,rfl⟩:=Int.eq_ofNat_of_zero_le h0;exact Ji l i w (by omega) hl
def jq (l:List UInt8):Bool:=match l with
  | []=>false
  | c::r=>jp c&&r.all iM
theorem sd (h:(a==b)=x):(a != b) = !x:=by rw[←h];rfl
theorem qS (hl:l.length≤100000) :
    iH 158 #[.string ⟨l.toArray⟩] w (.bool (jq l)):=by
  cases l with
  | nil=>
    go_enter Tryz.func158,Tryz.ntmps158;go_wp2;go_ret;exact⟨rfl,rfl⟩
  | cons c r=>
    obtain⟨m,hm⟩:∃m:List UInt8,m=c::r:=⟨_,rfl⟩;have hlen:m.length=r.length+1:=by rw[hm];rfl
    have hl0:((m.length:Int)==0)=false:=by rw[ay];omega
    have hl1:(0:Int)<(m.length:Int):=by omega
    have hl2:0<m.length:=by omega
    have hb0:∃h:0<(ByteArray.mk m.toArray).size,(ByteArray.mk m.toArray)[0]'h=c:=⟨hl2,by subst hm;rfl⟩;obtain⟨hb1,hb2⟩:=hb0;have hat:∀k,m[k+1]? = r[k]? := by intro k;subst hm;rfl
    have hres:jq (c::r)=(jp c&&r.all iM):=rfl;rw[hres,←hm];have hl':m.length≤100000:=by rw[hm];exact hl
    have HA:=aa hat;clear hat hl hres;by_cases hc:jp c=true
    ·have hc5:(fi c==5)=true:=hc;have hn5:(fi c != 5)=false:=sd hc5;rw[hc,cS];clear hm hc;have HLE:=aa hlen;clear hlen;go_enter Tryz.func158,Tryz.ntmps158;go_wp2_with (go_at_call 85;refine(ia c _).mono ?_;rintro e w' ⟨rfl,rfl⟩);go_loop [3] (fun i=>∃k:Nat,k≤r.length∧i=.int .i64 ((k:Int)+1)∧(r.take k).all iM=true) (fun i=>r.length+1-(intOf i).toNat)
     case atStart=>exact⟨0,by omega,rfl,rfl⟩
     case round=>
       obtain⟨k,hk,rfl,hp⟩:=hrel;have HP:=aa hp;clear hp;by_cases hlt:k<r.length
       ·obtain⟨d,hd⟩:∃d,r[k]? = some d:=⟨_,ax hlt⟩;have hdm:m[k+1]? = some d:=by rw[HA.out,hd]
        obtain⟨g1,g2⟩:=az.1 hdm;have g3:(ByteArray.mk m.toArray)[k+1]'(show k+1<m.length from g1)=d:=g2;have k1:(k:Int)+1<(m.length:Int):=by omega
        have k2:(0:Int)≤(k:Int)+1:=by omega
        have k3:((k:Int)+1).toNat=k+1:=by omega
        have HD:=aa hd;clear g2 hd hdm
        cases hx:jp d
        ·have q1:(fi d==5)=false:=hx;have q2:(fi d != 5)=true:=sd q1
         cases hy:gF d
         ·have q3:(fi d==6)=false:=hy;have q4:(fi d != 6)=true:=sd q3;have HX:=aa (ac hx hy);clear hx hy;go_wp2_with (go_at_call 85;refine(ia d _).mono ?_;rintro e w' ⟨rfl,rfl⟩);go_ret;refine⟨jW ?_,rfl⟩
          symm
          rw[List.all_eq_false];exact⟨d,aT HD.out,by simp[iM,HX.out.1,HX.out.2]⟩
         ·have q3:(fi d==6)=true:=hy;have q4:(fi d != 6)=false:=sd q3;have HX:=aa (ac hx hy);clear hx hy;go_wp2_with (go_at_call 85;refine(ia d _).mono ?_;rintro e w' ⟨rfl,rfl⟩);refine⟨⟨k+1,by omega,by go_num,?_⟩,by simp[intOf];omega⟩;obtain⟨t1,t2⟩:=az.1 HD.out;rw[bz t1,t2,List.all_append,HP.out];simp[iM,HX.out.1,HX.out.2]
        ·have q1:(fi d==5)=true:=hx;have q2:(fi d != 5)=false:=sd q1;have HX:=aa hx;clear hx;go_wp2_with (go_at_call 85;refine(ia d _).mono ?_;rintro e w' ⟨rfl,rfl⟩);refine⟨⟨k+1,by omega,by go_num,?_⟩,by simp[intOf];omega⟩;obtain⟨t1,t2⟩:=az.1 HD.out;rw[bz t1,t2,List.all_append,HP.out];simp[iM,HX.out]
       ·have k1:¬(k:Int)+1<(m.length:Int):=by have:=HLE.out;omega
        go_wp2;go_ret;refine⟨jW ?_,rfl⟩
        have:=HP.out
        rw[bF (by omega)] at this;exact this.symm
    ·have hc':jp c=false:=by simpa using hc
     have hc5:(fi c==5)=false:=hc';have hn5:(fi c != 5)=true:=sd hc5;rw[hc',cV];clear hm hc hc';go_enter Tryz.func158,Tryz.ntmps158;go_wp2_with (go_at_call 85;refine(ia c _).mono ?_;rintro e w' ⟨rfl,rfl⟩);go_ret;exact⟨rfl,rfl⟩
theorem zC {p:UInt8→Bool}:∀(l:List UInt8) (k:Nat),k≤l.length→((l.take k).all p=true↔k≤(l.takeWhile p).length)
  | [],k,h=>by simp at h;subst h;simp
  | c::l,0,_=>by simp
  | c::l,k+1,h=>by
    by_cases hc:p c=true
    ·rw[dq hc,cG,List.all_cons,hc,cS,zC l k (by simpa using h)];simp
    ·rw[dr hc,cG,List.all_cons];simp[hc]
theorem kj (h1:1≤k) (hk:k≤l.length):jq (l.take k)=decide (k≤oQ l):=by
  cases l with
  | nil=>simp at hk;omega
  | cons c r=>
    obtain⟨k,rfl⟩:∃k',k=k'+1:=⟨k-1,by omega⟩;rw[cG];unfold jq oQ;by_cases hc:jp c=true
    ·have hn:iM c=true:=by simp[iM,hc]
     simp only[hc,cS,bN];rw[dq hn,aV,zC r k (by simpa using hk)];simp
    ·simp[hc]
theorem sO (hi:i≤l.length) (hl:l.length≤100000) :
    iH 130 #[.string ⟨l.toArray⟩,.int .i64 (i:Int)] w (.int .i64 (rM l i:Int)):=by
  have hle:=tU l i;have hkey:∀k,1≤k→i+k≤l.length→jq ((l.drop i).take k)=decide (k≤rM l i):=fun k h1 h2=>by
    rw[tV];exact kj _ k h1 (by simp;omega)
  generalize rM l i=N at *;have HK:=aa hkey;clear hkey;go_enter Tryz.func130,Tryz.ntmps130;go_wp2;go_loop [5,6] (fun n k=>∃j:Nat,i+j≤l.length∧k=.int .i64 ((j:Int)+1)∧n=.int .i64 ((min j N:Nat):Int)) (fun _ k=>l.length+1-(intOf k).toNat)
  case atStart=>exact⟨0,by omega,rfl,by simp⟩
  case round=>
    obtain⟨j,hj,rfl,rfl⟩:=hrel;by_cases hlt:i+(j+1)≤l.length
    ·have k1:decide ((j:Int)+1≤(l.length:Int)-(i:Int))=true:=by simp;omega
     have k2:(i:Int)+((j:Int)+1)≤(l.length:Int):=by omega
     have k3:(0:Int)≤(i:Int)+((j:Int)+1):=by omega
     have k4:((i:Int)+((j:Int)+1)).toNat=i+(j+1):=by omega
     have k5:(i:Int)≤(i:Int)+((j:Int)+1):=by omega
     have hx:=HK.out (j+1) (by omega) hlt;have he:(ByteArray.mk l.toArray).extract i (i+(j+1))=⟨((l.drop i).take (j+1)).toArray⟩:=by
       rw[dY,←List.take_drop]
     by_cases hN:j+1≤N
     ·have hx':jq ((l.drop i).take (j+1))=true:=by rw[hx];simpa using hN
      have HX:=aa (ac hx' he);clear hx hx' he;go_wp2_with (go_at_call 158;rw[HX.out.2];refine(qS _ _ (by simp;omega)).mono ?_;rintro e w' ⟨rfl,rfl⟩;rw[HX.out.1]);exact⟨⟨j+1,by omega,by go_num,by rw[show min (j+1) N=j+1 by omega];go_num⟩,by simp[intOf];omega⟩
     ·have hx':jq ((l.drop i).take (j+1))=false:=by rw[hx];simpa using hN
      have HX:=aa (ac hx' he);clear hx hx' he;go_wp2_with (go_at_call 158;rw[HX.out.2];refine(qS _ _ (by simp;omega)).mono ?_;rintro e w' ⟨rfl,rfl⟩;rw[HX.out.1]);exact⟨⟨j+1,by omega,by go_num,by rw[show min (j+1) N=min j N by omega]⟩,by simp[intOf];omega⟩
    ·have k1:decide ((j:Int)+1≤(l.length:Int)-(i:Int))=false:=by simp;omega
     go_wp2;go_ret;exact⟨iT (by congr 1;omega),rfl⟩
theorem KZ:uN c [64,42,35,63,45,36,33]=sI c:=by
  have:=fh (fun c=>uN c [64,42,35,63,45,36,33]==sI c) (by decide +kernel) c
  simpa using this
theorem IW :
    iH 64 #[.int .u8 (c.toNat:Int),.string ⟨#[64,42,35,63,45,36,33]⟩] w (.bool (sI c)):=by
  rw[←KZ];exact JB c [64,42,35,63,45,36,33] w (by decide)
theorem EI (hi:i≤l.length) (hl:l.length≤100000) :
    iH 95 #[.string ⟨l.toArray⟩,.int .i64 (i:Int)] w (.int .i64 (pM l i:Int)):=by
  have e:=wD l i;by_cases h0:0<rM l i
  ·rw[aC h0] at e;rw[e];have k1:((rM l i:Int)==0)=false:=by rw[ay];omega
   clear e;go_enter Tryz.func95,Tryz.ntmps95;go_wp2_with (go_at_call 130;with_reducible refine(sO l i _ hi hl).mono ?_;rintro e w' ⟨rfl,rfl⟩);go_ret;exact⟨rfl,rfl⟩
  ·rw[aB h0] at e;have hz:rM l i=0:=by omega
   have HZ:=aa hz;clear hz h0;by_cases hil:l.length≤i
   ·rw[bZ hil] at e;rw[e];have k2:¬i<l.length:=by omega
    clear e;go_enter Tryz.func95,Tryz.ntmps95;go_wp2_with (go_at_call 130;with_reducible refine(sO l i _ hi hl).mono ?_;rintro e w' ⟨rfl,rfl⟩;rw[HZ.out]);go_ret;exact⟨rfl,rfl⟩
   ·obtain⟨c,hc⟩:∃c,l[i]? = some c:=⟨_,ax (by omega)⟩;rw[hc] at e;simp only at e;obtain⟨hb1,hb2⟩:=az.1 hc;have k3:(i:Int)<(l.length:Int):=by omega
    have k4:(0:Int)≤(i:Int):=by omega
    have k5:i<l.length:=hb1;have hSj2:(ByteArray.mk l.toArray)[i]'(show i<l.length from hb1)=c:=hb2;clear hc hb2 hil
    cases hg:gF c
    ·have q1:(fi c==6)=false:=hg
     cases hs:sI c;rw[aB (by simp[hs,hg])] at e
     rotate_left
     rw[aC (.inl hs)] at e
     rotate_left
     all_goals (
       rw[e];have HS:=aa hs;clear hg hs e;go_enter Tryz.func95,Tryz.ntmps95
       go_wp2_with (first
         | (go_at_call 130;with_reducible refine(sO l i _ hi hl).mono ?_;rintro e w' ⟨rfl,rfl⟩;rw[HZ.out])
         | (go_at_call 85;refine(ia c _).mono ?_;rintro e w' ⟨rfl,rfl⟩)
         | (go_at_call 64;refine(IW c _).mono ?_;rintro e w' ⟨rfl,rfl⟩;rw[HS.out]))
       go_ret;exact⟨rfl,rfl⟩)
    ·have q1:(fi c==6)=true:=hg;rw[aC (.inr hg)] at e;rw[e];clear hg e;go_enter Tryz.func95,Tryz.ntmps95
     go_wp2_with (first
       | (go_at_call 130;with_reducible refine(sO l i _ hi hl).mono ?_;rintro e w' ⟨rfl,rfl⟩;rw[HZ.out])
       | (go_at_call 85;refine(ia c _).mono ?_;rintro e w' ⟨rfl,rfl⟩))
     go_ret;exact⟨rfl,rfl⟩
end Go.Proofs.YtcagfamdoaoimaaGreatDoor
