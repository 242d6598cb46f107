/- Classes of bytes: the program's (class.Of, class.Ends) and the reference's (quillwortref04.In, Class, Ends) are one function of the byte. -/
import Derived.Test.YtfagdpfgifgnoaaGreatDoorMem
import Derived.Test.YtfagdpfgifgnoaaGreatDoorPl6
set_option linter.unusedVariables false
set_option linter.unusedSimpArgs false
set_option maxRecDepth 100000
set_option maxHeartbeats 8000000
namespace Go.Proofs.YtfagdpfgifgnoaaGreatDoor
open Go.RowKit
variable (l:List UInt8) (c:UInt8) (p:UInt8→Bool) (z:Int) (i:Nat) (w:World)
theorem og :
    iA 122 #[.int .u8 (c.toNat:Int)] w (.int .i64 (cw c)):=by
  go_enter Tryz.func122,Tryz.ntmps122;go_wp2;all_goals go_ret
  all_goals refine⟨kj ?_,rfl⟩
  all_goals (show _=cw c)
  all_goals go_light
  all_goals try simp only[beq_iff_eq,beq_eq_false_iff_ne,ne_eq] at *
  all_goals unfold cw
  all_goals (repeat (first|rw[if_pos (by omega)]|rw[if_neg (by omega)]))
theorem eG :
    iA 168 #[.int .u8 (c.toNat:Int)] w (.bool (dv c)):=by
  go_enter Tryz.func168,Tryz.ntmps168;go_wp2_with (go_at_call 122;refine(og _ _).mono ?_;rintro e w' ⟨rfl,rfl⟩);all_goals go_ret
  all_goals refine⟨fG ?_,rfl⟩
  all_goals (show _=dv c)
  all_goals go_light
  all_goals try simp only[beq_iff_eq,beq_eq_false_iff_ne,ne_eq] at *
  all_goals unfold dv
  all_goals (rw[Bool.eq_iff_iff];first|(simp_all;done)|(simp;omega)|omega)
theorem ug (p:UInt8→Bool):∀(l:List UInt8) (k:Nat),k<(l.takeWhile p).length→∃c,l[k]? = some c∧p c=true
  | [],k,h=>by simp at h
  | c::l,k,h=>by
    by_cases hc:p c=true
    ·rw[List.takeWhile_cons_of_pos hc] at h
     cases k with
     | zero=>exact⟨c,rfl,hc⟩
     | succ k=>simpa using ug p l k (by simpa using h)
    ·rw[List.takeWhile_cons_of_neg hc] at h;simp at h
theorem uj (p:UInt8→Bool):∀(l:List UInt8) (c:UInt8),l[(l.takeWhile p).length]? = some c→p c=false
  | [],c,h=>by simp at h
  | d::l,c,h=>by
    by_cases hd:p d=true
    ·rw[List.takeWhile_cons_of_pos hd] at h;exact uj p l c (by simpa using h)
    ·rw[List.takeWhile_cons_of_neg hd] at h;simp at h;subst h;simpa using hd
def Cx (q:bA) (t:Int):bA:={q with to:=t,op:=false}
def br (p:UInt8→Bool) (l:List UInt8) (i:Nat):Nat:=((l.drop i).takeWhile p).length
theorem ej (l:List UInt8) (i:Nat):br p l i≤l.length-i:=by
  unfold br;have h1:((l.drop i).takeWhile p).length≤(l.drop i).length:=(List.takeWhile_prefix p).length_le;simpa using h1
theorem nu:iA 222 #[.int .u8 (c.toNat:Int)] w (.bool (fW c)):=by
  go_enter Tryz.func222,Tryz.ntmps222;go_wp2_with (go_at_call 122;refine(og c _).mono ?_;rintro e w' ⟨rfl,rfl⟩);go_ret;exact⟨rfl,rfl⟩
theorem qq:iA 167 #[.int .u8 (c.toNat:Int)] w (.bool (dL c)):=by
  go_enter Tryz.func167,Tryz.ntmps167;go_wp2_with (go_at_call 122;refine(og c _).mono ?_;rintro e w' ⟨rfl,rfl⟩);go_ret;exact⟨rfl,rfl⟩
theorem uM:iA 223 #[.int .u8 (c.toNat:Int)] w (.bool (fM c)):=by
  cases hl:fW c;all_goals (
    have HL:=Lib.hid hl;clear hl;go_enter Tryz.func223,Tryz.ntmps223
    go_wp2_with (first
      | (go_at_call 222;refine(nu c _).mono ?_;rintro e w' ⟨rfl,rfl⟩;rw[HL.out])
      | (go_at_call 167;refine(qq c _).mono ?_;rintro e w' ⟨rfl,rfl⟩))
    go_ret;exact⟨fG (by unfold fM;rw[HL.out];rfl),rfl⟩)
theorem qL (hi:i≤100000) (hl:l.length≤100000) :
    iA 166 #[.string ⟨l.toArray⟩,.int .i64 (i:Int),.func (.func 222) #[] #[]] w (.int .i64 (br fW l i:Int)):=by
  have k0:decide ((i:Int)<0)=false:=by simp
  by_cases hil:l.length≤i
  ·have k1:decide ((l.length:Int)≤(i:Int))=true:=by simp;omega
   have e:br fW l i=0:=by have:=ej fW l i;omega
   rw[e];clear e;go_enter Tryz.func166,Tryz.ntmps166;go_wp2;go_step3;go_wp2;try rw[Exit.noGoto_ret]
   go_ret;exact⟨rfl,rfl⟩
  ·have k1:decide ((l.length:Int)≤(i:Int))=false:=by simp;omega
   have hsl:=ej fW l i;have hlt:∀k,k<br fW l i→∃c,l[i+k]? = some c∧fW c=true:=fun k hk=>by
     have:=ug fW (l.drop i) k hk
     simpa [List.getElem?_drop] using this
   have hat:∀c,l[i+br fW l i]? = some c→fW c=false:=fun c hc=>uj fW (l.drop i) c (by rw[List.getElem?_drop];exact hc)
   generalize hm:br fW l i=m at *;have H:=Lib.hid (And.intro hlt hat);clear hlt hat hm;go_enter Tryz.func166,Tryz.ntmps166;go_wp2;go_step3;go_wp2;go_step3;go_wp2;go_loop [7] (fun n=>∃k:Nat,k≤m∧n=.int .i64 k) (fun n=>m-(intOf n).toNat)
   case atStart=>exact⟨0,by omega,rfl⟩
   case round=>
     obtain⟨k,hk,rfl⟩:=hrel;by_cases hkm:k<m
     ·obtain⟨c,hc,hp⟩:=H.out.1 k hkm;obtain⟨hb1,hb2⟩:=List.getElem?_eq_some_iff.1 hc;have hSj2:(ByteArray.mk l.toArray)[i+k]'(show i+k<l.length from hb1)=c:=hb2;have k2:(i:Int)+(k:Int)<(l.length:Int):=by omega
      have k3:(0:Int)≤(i:Int)+(k:Int):=by omega
      have k4:((i:Int)+(k:Int)).toNat=i+k:=by omega
      have HP:=Lib.hid hp;clear hc hb2 hp;go_wp2_with (go_at_call 222;refine(nu c _).mono ?_;rintro e w' ⟨rfl,rfl⟩;rw[HP.out]);exact⟨⟨k+1,by omega,by go_num⟩,by simp[intOf];omega⟩
     ·obtain rfl:k=m:=by omega
      by_cases hend:i+k=l.length
      ·have k2:¬(i:Int)+(k:Int)<(l.length:Int):=by omega
       go_wp2;try rw[Exit.noGoto_ret]
       go_ret;exact⟨rfl,rfl⟩
      ·obtain⟨c,hc⟩:∃c,l[i+k]? = some c:=⟨_,List.getElem?_eq_getElem (by omega)⟩;have hp:=H.out.2 c hc;obtain⟨hb1,hb2⟩:=List.getElem?_eq_some_iff.1 hc;have hSj2:(ByteArray.mk l.toArray)[i+k]'(show i+k<l.length from hb1)=c:=hb2;have k2:(i:Int)+(k:Int)<(l.length:Int):=by omega
       have k3:(0:Int)≤(i:Int)+(k:Int):=by omega
       have k4:((i:Int)+(k:Int)).toNat=i+k:=by omega
       have HP:=Lib.hid hp;clear hc hb2 hp;go_wp2_with (go_at_call 222;refine(nu c _).mono ?_;rintro e w' ⟨rfl,rfl⟩;rw[HP.out]);try rw[Exit.noGoto_ret]
       go_ret;exact⟨rfl,rfl⟩
theorem wX (hi:i≤100000) (hl:l.length≤100000) :
    iA 166 #[.string ⟨l.toArray⟩,.int .i64 (i:Int),.func (.func 223) #[] #[]] w (.int .i64 (br fM l i:Int)):=by
  have k0:decide ((i:Int)<0)=false:=by simp
  by_cases hil:l.length≤i
  ·have k1:decide ((l.length:Int)≤(i:Int))=true:=by simp;omega
   have e:br fM l i=0:=by have:=ej fM l i;omega
   rw[e];clear e;go_enter Tryz.func166,Tryz.ntmps166;go_wp2;go_step3;go_wp2;try rw[Exit.noGoto_ret]
   go_ret;exact⟨rfl,rfl⟩
  ·have k1:decide ((l.length:Int)≤(i:Int))=false:=by simp;omega
   have hsl:=ej fM l i;have hlt:∀k,k<br fM l i→∃c,l[i+k]? = some c∧fM c=true:=fun k hk=>by
     have:=ug fM (l.drop i) k hk
     simpa [List.getElem?_drop] using this
   have hat:∀c,l[i+br fM l i]? = some c→fM c=false:=fun c hc=>uj fM (l.drop i) c (by rw[List.getElem?_drop];exact hc)
   generalize hm:br fM l i=m at *;have H:=Lib.hid (And.intro hlt hat);clear hlt hat hm;go_enter Tryz.func166,Tryz.ntmps166;go_wp2;go_step3;go_wp2;go_step3;go_wp2;go_loop [7] (fun n=>∃k:Nat,k≤m∧n=.int .i64 k) (fun n=>m-(intOf n).toNat)
   case atStart=>exact⟨0,by omega,rfl⟩
   case round=>
     obtain⟨k,hk,rfl⟩:=hrel;by_cases hkm:k<m
     ·obtain⟨c,hc,hp⟩:=H.out.1 k hkm;obtain⟨hb1,hb2⟩:=List.getElem?_eq_some_iff.1 hc;have hSj2:(ByteArray.mk l.toArray)[i+k]'(show i+k<l.length from hb1)=c:=hb2;have k2:(i:Int)+(k:Int)<(l.length:Int):=by omega
      have k3:(0:Int)≤(i:Int)+(k:Int):=by omega
      have k4:((i:Int)+(k:Int)).toNat=i+k:=by omega
      have HP:=Lib.hid hp;clear hc hb2 hp;go_wp2_with (go_at_call 223;refine(uM c _).mono ?_;rintro e w' ⟨rfl,rfl⟩;rw[HP.out]);exact⟨⟨k+1,by omega,by go_num⟩,by simp[intOf];omega⟩
     ·obtain rfl:k=m:=by omega
      by_cases hend:i+k=l.length
      ·have k2:¬(i:Int)+(k:Int)<(l.length:Int):=by omega
       go_wp2;try rw[Exit.noGoto_ret]
       go_ret;exact⟨rfl,rfl⟩
      ·obtain⟨c,hc⟩:∃c,l[i+k]? = some c:=⟨_,List.getElem?_eq_getElem (by omega)⟩;have hp:=H.out.2 c hc;obtain⟨hb1,hb2⟩:=List.getElem?_eq_some_iff.1 hc;have hSj2:(ByteArray.mk l.toArray)[i+k]'(show i+k<l.length from hb1)=c:=hb2;have k2:(i:Int)+(k:Int)<(l.length:Int):=by omega
       have k3:(0:Int)≤(i:Int)+(k:Int):=by omega
       have k4:((i:Int)+(k:Int)).toNat=i+k:=by omega
       have HP:=Lib.hid hp;clear hc hb2 hp;go_wp2_with (go_at_call 223;refine(uM c _).mono ?_;rintro e w' ⟨rfl,rfl⟩;rw[HP.out]);try rw[Exit.noGoto_ret]
       go_ret;exact⟨rfl,rfl⟩
theorem wY (hi:i≤100000) (hl:l.length≤100000) :
    iA 166 #[.string ⟨l.toArray⟩,.int .i64 (i:Int),.func (.func 167) #[] #[]] w (.int .i64 (br dL l i:Int)):=by
  have k0:decide ((i:Int)<0)=false:=by simp
  by_cases hil:l.length≤i
  ·have k1:decide ((l.length:Int)≤(i:Int))=true:=by simp;omega
   have e:br dL l i=0:=by have:=ej dL l i;omega
   rw[e];clear e;go_enter Tryz.func166,Tryz.ntmps166;go_wp2;go_step3;go_wp2;try rw[Exit.noGoto_ret]
   go_ret;exact⟨rfl,rfl⟩
  ·have k1:decide ((l.length:Int)≤(i:Int))=false:=by simp;omega
   have hsl:=ej dL l i;have hlt:∀k,k<br dL l i→∃c,l[i+k]? = some c∧dL c=true:=fun k hk=>by
     have:=ug dL (l.drop i) k hk
     simpa [List.getElem?_drop] using this
   have hat:∀c,l[i+br dL l i]? = some c→dL c=false:=fun c hc=>uj dL (l.drop i) c (by rw[List.getElem?_drop];exact hc)
   generalize hm:br dL l i=m at *;have H:=Lib.hid (And.intro hlt hat);clear hlt hat hm;go_enter Tryz.func166,Tryz.ntmps166;go_wp2;go_step3;go_wp2;go_step3;go_wp2;go_loop [7] (fun n=>∃k:Nat,k≤m∧n=.int .i64 k) (fun n=>m-(intOf n).toNat)
   case atStart=>exact⟨0,by omega,rfl⟩
   case round=>
     obtain⟨k,hk,rfl⟩:=hrel;by_cases hkm:k<m
     ·obtain⟨c,hc,hp⟩:=H.out.1 k hkm;obtain⟨hb1,hb2⟩:=List.getElem?_eq_some_iff.1 hc;have hSj2:(ByteArray.mk l.toArray)[i+k]'(show i+k<l.length from hb1)=c:=hb2;have k2:(i:Int)+(k:Int)<(l.length:Int):=by omega
      have k3:(0:Int)≤(i:Int)+(k:Int):=by omega
      have k4:((i:Int)+(k:Int)).toNat=i+k:=by omega
      have HP:=Lib.hid hp;clear hc hb2 hp;go_wp2_with (go_at_call 167;refine(qq c _).mono ?_;rintro e w' ⟨rfl,rfl⟩;rw[HP.out]);exact⟨⟨k+1,by omega,by go_num⟩,by simp[intOf];omega⟩
     ·obtain rfl:k=m:=by omega
      by_cases hend:i+k=l.length
      ·have k2:¬(i:Int)+(k:Int)<(l.length:Int):=by omega
       go_wp2;try rw[Exit.noGoto_ret]
       go_ret;exact⟨rfl,rfl⟩
      ·obtain⟨c,hc⟩:∃c,l[i+k]? = some c:=⟨_,List.getElem?_eq_getElem (by omega)⟩;have hp:=H.out.2 c hc;obtain⟨hb1,hb2⟩:=List.getElem?_eq_some_iff.1 hc;have hSj2:(ByteArray.mk l.toArray)[i+k]'(show i+k<l.length from hb1)=c:=hb2;have k2:(i:Int)+(k:Int)<(l.length:Int):=by omega
       have k3:(0:Int)≤(i:Int)+(k:Int):=by omega
       have k4:((i:Int)+(k:Int)).toNat=i+k:=by omega
       have HP:=Lib.hid hp;clear hc hb2 hp;go_wp2_with (go_at_call 167;refine(qq c _).mono ?_;rintro e w' ⟨rfl,rfl⟩;rw[HP.out]);try rw[Exit.noGoto_ret]
       go_ret;exact⟨rfl,rfl⟩
def sG (l:List UInt8) (i:Nat):Nat:=if br fW l i=0 then 0 else br fM l i
theorem ox (l:List UInt8) (i:Nat):br p l i=0↔∀c,l[i]? = some c→p c=false:=by
  unfold br;have e:(l.drop i)[0]? = l[i]? := by rw[List.getElem?_drop];rfl
  rw[←e]
  cases h:l.drop i with
  | nil=>simp
  | cons d m=>
    by_cases hd:p d=true
    ·simp[List.takeWhile_cons_of_pos hd,hd]
    ·simp[List.takeWhile_cons_of_neg hd,hd]
theorem DV:sG l i=mM (l.drop i):=by
  unfold sG mM;have e:(l.drop i)[0]? = l[i]? := by rw[List.getElem?_drop];rfl
  by_cases h:br fW l i=0
  ·rw[if_pos h];rw[ox] at h;rw[←e] at h
   cases hd:l.drop i with
   | nil=>rfl
   | cons d m=>
     rw[hd] at h;simp only;rw[if_neg (by rw[h d rfl];simp)]
  ·rw[if_neg h];unfold br at h ⊢
   cases hd:l.drop i with
   | nil=>rw[hd] at h;simp at h
   | cons d m=>
     rw[hd] at h;have hl:fW d=true:=by
       by_cases hc:fW d=true
       ·exact hc
       ·rw[List.takeWhile_cons_of_neg hc] at h;simp at h
     simp only;rw[if_pos hl]
theorem yw:sG l i≤l.length-i:=by
  unfold sG;split
  ·omega
  ·exact ej _ _ _
theorem uF:lw l i=if 0<sG l i then sG l i else match l[i]? with
    | none=>0
    | some c=>if qK c=true∨dL c=true then 1 else 0:=by
  unfold lw rB;rw[DV];have e:(l.drop i)[0]? = l[i]? := by rw[List.getElem?_drop];rfl
  rw[←e]
  cases l.drop i<;>rfl
theorem uE:lw l i≤l.length-i:=by
  rw[uF];split
  ·exact yw _ _
  ·cases h:l[i]? with
   | none=>simp
   | some c=>
     have:=(List.getElem?_eq_some_iff.1 h).1
     simp only;split<;>omega
theorem jS (hi:i≤100000) (hl:l.length≤100000) :
    iA 216 #[.string ⟨l.toArray⟩,.int .i64 (i:Int)] w (.int .i64 (sG l i:Int)):=by
  unfold sG;by_cases h0:br fW l i=0
  ·rw[if_pos h0];have k0:((br fW l i:Int)==0)=true:=by simp[h0]
   clear h0;go_enter Tryz.func216,Tryz.ntmps216;go_wp2_with (go_at_call 166;with_reducible refine(qL l i _ hi hl).mono ?_;rintro e w' ⟨rfl,rfl⟩);go_ret;exact⟨rfl,rfl⟩
  ·rw[if_neg h0];have k0:((br fW l i:Int)==0)=false:=by simp[h0]
   clear h0;go_enter Tryz.func216,Tryz.ntmps216
   go_wp2_with (first
     | (go_at_call 166;with_reducible refine(qL l i _ hi hl).mono ?_;rintro e w' ⟨rfl,rfl⟩)
     | (go_at_call 166;with_reducible refine(wX l i _ hi hl).mono ?_;rintro e w' ⟨rfl,rfl⟩))
   go_ret;exact⟨rfl,rfl⟩
theorem gR (hi:i≤100000) (hl:l.length≤100000) :
    iA 143 #[.string ⟨l.toArray⟩,.int .i64 (i:Int)] w (.int .i64 (br dL l i:Int)):=by
  go_enter Tryz.func143,Tryz.ntmps143;go_wp2_with (go_at_call 166;with_reducible refine(wY l i _ hi hl).mono ?_;rintro e w' ⟨rfl,rfl⟩);go_ret;exact⟨rfl,rfl⟩
theorem Du (h:qK c=true):c=64∨c=42∨c=35∨c=63∨c=45∨c=36∨c=33:=by
  have:=bM (fun c => !qK c||(c==64||c==42||c==35||c==63||c==45||c==36||c==33)) (by decide +kernel) c
  simpa [h,or_assoc] using this
theorem AN (h:qK c=false):((c.toNat:Int)==64)=false∧((c.toNat:Int)==42)=false∧((c.toNat:Int)==35)=false∧((c.toNat:Int)==63)=false∧((c.toNat:Int)==45)=false∧((c.toNat:Int)==36)=false∧((c.toNat:Int)==33)=false:=by
  have:=bM (fun c=>qK c||(((c.toNat:Int)==64)==false&&((c.toNat:Int)==42)==false&&((c.toNat:Int)==35)==false&&((c.toNat:Int)==63)==false&&((c.toNat:Int)==45)==false&&((c.toNat:Int)==36)==false&&((c.toNat:Int)==33)==false)) (by decide +kernel) c
  simpa [h,and_assoc] using this
theorem BH (hi:i≤100000) (hl:l.length≤100000) :
    iA 208 #[.string ⟨l.toArray⟩,.int .i64 (i:Int)] w (.int .i64 (lw l i:Int)):=by
  have e:=uF l i;have k0:decide ((i:Int)<0)=false:=by simp
  by_cases h0:0<sG l i
  ·rw[if_pos h0] at e;rw[e];have k1:decide ((0:Int)<(sG l i:Int))=true:=by simp;omega
   clear e;go_enter Tryz.func208,Tryz.ntmps208;go_wp2_with (go_at_call 216;with_reducible refine(jS l i _ hi hl).mono ?_;rintro e w' ⟨rfl,rfl⟩);go_ret;exact⟨rfl,rfl⟩
  ·rw[if_neg h0] at e;have k1:decide ((0:Int)<(sG l i:Int))=false:=by simp;omega
   by_cases hil:l.length≤i
   ·rw[List.getElem?_eq_none hil] at e;rw[e];have k2:decide ((l.length:Int)≤(i:Int))=true:=by simp;omega
    clear e;go_enter Tryz.func208,Tryz.ntmps208;go_wp2_with (go_at_call 216;with_reducible refine(jS l i _ hi hl).mono ?_;rintro e w' ⟨rfl,rfl⟩);go_ret;exact⟨rfl,rfl⟩
   ·obtain⟨c,hc⟩:∃c,l[i]? = some c:=⟨_,List.getElem?_eq_getElem (by omega)⟩;rw[hc] at e;simp only at e;have hd:=ox dL l i;rw[hc] at hd;obtain⟨hb1,hb2⟩:=List.getElem?_eq_some_iff.1 hc;have k2:decide ((l.length:Int)≤(i:Int))=false:=by simp;omega
    have k3:(i:Int)<(l.length:Int):=by omega
    have k4:(0:Int)≤(i:Int):=by omega
    have hSj2:(ByteArray.mk l.toArray)[i]'(show i<l.length from hb1)=c:=hb2;clear hc hb2;by_cases hs:qK c=true
    ·rw[if_pos (.inl hs)] at e;rw[e];clear e hd;rcases Du c hs with rfl|rfl|rfl|rfl|rfl|rfl|rfl
     all_goals (
       clear hs;go_enter Tryz.func208,Tryz.ntmps208;go_wp2_with (go_at_call 216;with_reducible refine(jS l i _ hi hl).mono ?_;rintro e w' ⟨rfl,rfl⟩);go_ret;exact⟨rfl,rfl⟩)
    ·have hs':qK c=false:=by simpa using hs
     obtain⟨s1,s2,s3,s4,s5,s6,s7⟩:=AN c hs';by_cases hg:dL c=true
     ·rw[if_pos (.inr hg)] at e;have hn:br dL l i≠0:=fun h=>by have:=hd.1 h c rfl;rw[hg] at this;cases this
      have k5:decide ((1:Int)≤(br dL l i:Int))=true:=by simp;omega
      have k6:min (br dL l i:Int) 1=1:=by omega
      rw[e];have HX:=Lib.hid hn;clear e hd hs hs' hg hn k6;go_enter Tryz.func208,Tryz.ntmps208
      go_wp2_with (first
        | (go_at_call 216;with_reducible refine(jS l i _ hi hl).mono ?_;rintro e w' ⟨rfl,rfl⟩)
        | (go_at_call 143;with_reducible refine(gR l i _ hi hl).mono ?_;rintro e w' ⟨rfl,rfl⟩))
      all_goals (
        go_ret;exact⟨kj (by have:=HX.out;first|rfl|omega),rfl⟩)
     ·rw[if_neg (fun h=>by rcases h with h|h;exact hs h;exact hg h)] at e;have hn:br dL l i=0:=hd.2 (fun d hd'=>by cases hd';simpa using hg);have hz:=Lib.hid hn;rw[e];clear hd hs hs' hg hn;go_enter Tryz.func208,Tryz.ntmps208
      go_wp2_with (first
        | (go_at_call 216;with_reducible refine(jS l i _ hi hl).mono ?_;rintro e w' ⟨rfl,rfl⟩)
        | (go_at_call 143;with_reducible refine(gR l i _ hi hl).mono ?_;rintro e w' ⟨rfl,rfl⟩;rw[hz.out]))
      go_ret;exact⟨rfl,rfl⟩
theorem BJ (h0:0≤z) (h1:z≤100000) (hl:l.length≤100000) :
    iA 208 #[.string ⟨l.toArray⟩,.int .i64 z] w (.int .i64 (lw l z.toNat:Int)):=by
  obtain⟨i,rfl⟩:=Int.eq_ofNat_of_zero_le h0;exact BH l i w (by omega) hl
end Go.Proofs.YtfagdpfgifgnoaaGreatDoor
