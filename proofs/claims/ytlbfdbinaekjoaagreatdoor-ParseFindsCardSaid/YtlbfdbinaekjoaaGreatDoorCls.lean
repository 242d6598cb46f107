/- Classes of bytes: the program's (class.Of, class.Ends) and the reference's (quillwortref04.In, Class, Ends) are one function of the byte. -/
import Derived.Test.YtlbfdbinaekjoaaGreatDoorMem
import Derived.Test.YtlbfdbinaekjoaaGreatDoorPl6
namespace Go.Proofs.YtlbfdbinaekjoaaGreatDoor
open Go.RowKit
set_option linter.unusedVariables false
set_option linter.unusedSimpArgs false
set_option maxRecDepth 100000
theorem of_c (c:UInt8) (w:World) :
    Calls Tryz.prog 73 #[.int .u8 (c.toNat:Int)] w fun e w'=>e=.returned (.int .i64 (clsOf c))∧w=w':=by
  go_enter Tryz.func73,Tryz.ntmps73
  go_wp2
  all_goals go_ret
  all_goals refine⟨ret_int ?_,rfl⟩
  all_goals (show _=clsOf c)
  all_goals go_light
  all_goals try simp only[beq_iff_eq,beq_eq_false_iff_ne,ne_eq] at *
  all_goals unfold clsOf
  all_goals (repeat (first|rw[if_pos (by omega)]|rw[if_neg (by omega)]))
theorem ends_c (c:UInt8) (w:World) :
    Calls Tryz.prog 124 #[.int .u8 (c.toNat:Int)] w fun e w'=>e=.returned (.bool (endsB c))∧w=w':=by
  go_enter Tryz.func124,Tryz.ntmps124
  go_wp2_with (go_at_call 73;refine(of_c _ _).mono ?_;rintro e w' ⟨rfl,rfl⟩)
  all_goals go_ret
  all_goals refine⟨ret_bool ?_,rfl⟩
  all_goals (show _=endsB c)
  all_goals go_light
  all_goals try simp only[beq_iff_eq,beq_eq_false_iff_ne,ne_eq] at *
  all_goals unfold endsB
  all_goals (rw[Bool.eq_iff_iff];first|(simp_all;done)|(simp;omega)|omega)
theorem in_c (c:UInt8) (l:List UInt8) (w:World) (hl:l.length≤1000000) :
    Calls Tryz.prog 45 #[.int .u8 (c.toNat:Int),.string ⟨l.toArray⟩] w fun e w'=>e=.returned (.bool (inL c l))∧w=w':=by
  go_enter Tryz.func45,Tryz.ntmps45
  go_wp2
  go_loop [5] (fun i=>∃k:Nat,k≤l.length∧i=.int .i64 k∧inL c (l.take k)=false) (fun i=>l.length-(intOf i).toNat)
  case atStart=>exact⟨0,by omega,rfl,rfl⟩
  case round=>
    obtain⟨k,hk,rfl,hin⟩:=hrel
    have Hin:=Lib.hid hin
    clear hin
    by_cases hlt:k<l.length
    ·go_wp2
     ·go_ret
      simp only[ba_get,beq_iff_eq] at *
      refine⟨ret_bool ?_,trivial⟩
      refine(inL_of_take c l (k+1) ?_).symm
      rw[inL_snoc c l k hlt]
      have:(l[k]).toNat=c.toNat:=by omega
      simp[this]
     ·simp only[ba_get,beq_eq_false_iff_ne,ne_eq] at *
      refine⟨⟨k+1,by omega,by go_num,?_⟩,by simp[intOf];omega⟩
      rw[inL_snoc c l k hlt,Hin.out]
      have:¬(l[k]).toNat=c.toNat:=by omega
      simp[this]
    ·go_wp2
     go_ret
     refine⟨ret_bool ?_,rfl⟩
     have:=Hin.out
     rw[List.take_of_length_le (by omega)] at this
     exact this.symm
theorem class_c (c:UInt8) (w:World) :
    Calls Tryz.prog 47 #[.int .u8 (c.toNat:Int)] w fun e w'=>e=.returned (.int .i64 (clsOf c))∧w=w':=by
  rw[←clsIn_eq]
  go_enter Tryz.func47,Tryz.ntmps47
  go_wp2_with (go_at_call 45;refine(in_c c _ _ (by decide)).mono ?_;rintro e w' ⟨rfl,rfl⟩)
  all_goals go_ret
  all_goals refine⟨ret_int ?_,by first|rfl|trivial⟩
  all_goals (show _=clsIn c)
  all_goals go_light
  all_goals try simp only[beq_iff_eq,beq_eq_false_iff_ne,ne_eq] at *
  all_goals unfold clsIn isMeta isQuote isLetter isDigit
  all_goals (repeat (first|rw[if_pos (by first|omega|assumption)]|rw[if_neg (by first|omega|simp[*])]))
end Go.Proofs.YtlbfdbinaekjoaaGreatDoor
namespace Go.Proofs.YtlbfdbinaekjoaaGreatDoor
open Go.RowKit
set_option linter.unusedVariables false
set_option linter.unusedSimpArgs false
set_option maxRecDepth 100000
theorem tw_lt (p:UInt8→Bool):∀(l:List UInt8) (k:Nat),k<(l.takeWhile p).length→∃c,l[k]? = some c∧p c=true
  | [],k,h=>by simp at h
  | c::l,k,h=>by
    by_cases hc:p c=true
    ·rw[List.takeWhile_cons_of_pos hc] at h
     cases k with
     | zero=>exact⟨c,rfl,hc⟩
     | succ k=>simpa using tw_lt p l k (by simpa using h)
    ·rw[List.takeWhile_cons_of_neg hc] at h
     simp at h
theorem tw_at (p:UInt8→Bool):∀(l:List UInt8) (c:UInt8),l[(l.takeWhile p).length]? = some c→p c=false
  | [],c,h=>by simp at h
  | d::l,c,h=>by
    by_cases hd:p d=true
    ·rw[List.takeWhile_cons_of_pos hd] at h
     exact tw_at p l c (by simpa using h)
    ·rw[List.takeWhile_cons_of_neg hd] at h
     simp at h
     subst h
     simpa using hd
def dolP (q:Prt) (t:Int):Prt:={q with to:=t,op:=false}
def spanL (p:UInt8→Bool) (l:List UInt8) (i:Nat):Nat:=((l.drop i).takeWhile p).length
theorem spanL_le (p:UInt8→Bool) (l:List UInt8) (i:Nat):spanL p l i≤l.length-i:=by
  unfold spanL
  have h1:((l.drop i).takeWhile p).length≤(l.drop i).length:=(List.takeWhile_prefix p).length_le
  simpa using h1
theorem letter_m (c:UInt8) (w:World):Calls Tryz.prog 161 #[.int .u8 (c.toNat:Int)] w fun e w'=>e=.returned (.bool (letB c))∧w=w':=by
  go_enter Tryz.func161,Tryz.ntmps161
  go_wp2_with (go_at_call 73;refine(of_c c _).mono ?_;rintro e w' ⟨rfl,rfl⟩)
  go_ret
  exact⟨rfl,rfl⟩
theorem digit_m (c:UInt8) (w:World):Calls Tryz.prog 123 #[.int .u8 (c.toNat:Int)] w fun e w'=>e=.returned (.bool (digB c))∧w=w':=by
  go_enter Tryz.func123,Tryz.ntmps123
  go_wp2_with (go_at_call 73;refine(of_c c _).mono ?_;rintro e w' ⟨rfl,rfl⟩)
  go_ret
  exact⟨rfl,rfl⟩
theorem name1_m (c:UInt8) (w:World):Calls Tryz.prog 162 #[.int .u8 (c.toNat:Int)] w fun e w'=>e=.returned (.bool (nameB c))∧w=w':=by
  cases hl:letB c
  all_goals (
    have HL:=Lib.hid hl
    clear hl
    go_enter Tryz.func162,Tryz.ntmps162
    go_wp2_with (first
      | (go_at_call 161;refine(letter_m c _).mono ?_;rintro e w' ⟨rfl,rfl⟩;rw[HL.out])
      | (go_at_call 123;refine(digit_m c _).mono ?_;rintro e w' ⟨rfl,rfl⟩))
    go_ret
    exact⟨ret_bool (by unfold nameB;rw[HL.out];rfl),rfl⟩)
set_option maxHeartbeats 1000000 in
theorem span_let (l:List UInt8) (i:Nat) (w:World) (hi:i≤100000) (hl:l.length≤100000) :
    Calls Tryz.prog 122 #[.string ⟨l.toArray⟩,.int .i64 (i:Int),.func (.func 161) #[] #[]] w fun e w'=>e=.returned (.int .i64 (spanL letB l i:Int))∧w=w':=by
  have k0:decide ((i:Int)<0)=false:=by simp
  by_cases hil:l.length≤i
  ·have k1:decide ((l.length:Int)≤(i:Int))=true:=by simp;omega
   have e:spanL letB l i=0:=by have:=spanL_le letB l i;omega
   rw[e]
   clear e
   go_enter Tryz.func122,Tryz.ntmps122
   go_wp2
   go_step3
   go_wp2
   try rw[Exit.noGoto_ret]
   go_ret
   exact⟨rfl,rfl⟩
  ·have k1:decide ((l.length:Int)≤(i:Int))=false:=by simp;omega
   have hsl:=spanL_le letB l i
   have hlt:∀k,k<spanL letB l i→∃c,l[i+k]? = some c∧letB c=true:=fun k hk=>by
     have:=tw_lt letB (l.drop i) k hk
     simpa [List.getElem?_drop] using this
   have hat:∀c,l[i+spanL letB l i]? = some c→letB c=false:=fun c hc=>tw_at letB (l.drop i) c (by rw[List.getElem?_drop];exact hc)
   generalize hm:spanL letB l i=m at *
   have H:=Lib.hid (And.intro hlt hat)
   clear hlt hat hm
   go_enter Tryz.func122,Tryz.ntmps122
   go_wp2
   go_step3
   go_wp2
   go_step3
   go_wp2
   go_loop [7] (fun n=>∃k:Nat,k≤m∧n=.int .i64 k) (fun n=>m-(intOf n).toNat)
   case atStart=>exact⟨0,by omega,rfl⟩
   case round=>
     obtain⟨k,hk,rfl⟩:=hrel
     by_cases hkm:k<m
     ·obtain⟨c,hc,hp⟩:=H.out.1 k hkm
      obtain⟨hb1,hb2⟩:=List.getElem?_eq_some_iff.1 hc
      have hSj2:(ByteArray.mk l.toArray)[i+k]'(show i+k<l.length from hb1)=c:=hb2
      have k2:(i:Int)+(k:Int)<(l.length:Int):=by omega
      have k3:(0:Int)≤(i:Int)+(k:Int):=by omega
      have k4:((i:Int)+(k:Int)).toNat=i+k:=by omega
      have HP:=Lib.hid hp
      clear hc hb2 hp
      go_wp2_with (go_at_call 161;refine(letter_m c _).mono ?_;rintro e w' ⟨rfl,rfl⟩;rw[HP.out])
      exact⟨⟨k+1,by omega,by go_num⟩,by simp[intOf];omega⟩
     ·obtain rfl:k=m:=by omega
      by_cases hend:i+k=l.length
      ·have k2:¬(i:Int)+(k:Int)<(l.length:Int):=by omega
       go_wp2
       try rw[Exit.noGoto_ret]
       go_ret
       exact⟨rfl,rfl⟩
      ·obtain⟨c,hc⟩:∃c,l[i+k]? = some c:=⟨_,List.getElem?_eq_getElem (by omega)⟩
       have hp:=H.out.2 c hc
       obtain⟨hb1,hb2⟩:=List.getElem?_eq_some_iff.1 hc
       have hSj2:(ByteArray.mk l.toArray)[i+k]'(show i+k<l.length from hb1)=c:=hb2
       have k2:(i:Int)+(k:Int)<(l.length:Int):=by omega
       have k3:(0:Int)≤(i:Int)+(k:Int):=by omega
       have k4:((i:Int)+(k:Int)).toNat=i+k:=by omega
       have HP:=Lib.hid hp
       clear hc hb2 hp
       go_wp2_with (go_at_call 161;refine(letter_m c _).mono ?_;rintro e w' ⟨rfl,rfl⟩;rw[HP.out])
       try rw[Exit.noGoto_ret]
       go_ret
       exact⟨rfl,rfl⟩
set_option maxHeartbeats 1000000 in
theorem span_nam (l:List UInt8) (i:Nat) (w:World) (hi:i≤100000) (hl:l.length≤100000) :
    Calls Tryz.prog 122 #[.string ⟨l.toArray⟩,.int .i64 (i:Int),.func (.func 162) #[] #[]] w fun e w'=>e=.returned (.int .i64 (spanL nameB l i:Int))∧w=w':=by
  have k0:decide ((i:Int)<0)=false:=by simp
  by_cases hil:l.length≤i
  ·have k1:decide ((l.length:Int)≤(i:Int))=true:=by simp;omega
   have e:spanL nameB l i=0:=by have:=spanL_le nameB l i;omega
   rw[e]
   clear e
   go_enter Tryz.func122,Tryz.ntmps122
   go_wp2
   go_step3
   go_wp2
   try rw[Exit.noGoto_ret]
   go_ret
   exact⟨rfl,rfl⟩
  ·have k1:decide ((l.length:Int)≤(i:Int))=false:=by simp;omega
   have hsl:=spanL_le nameB l i
   have hlt:∀k,k<spanL nameB l i→∃c,l[i+k]? = some c∧nameB c=true:=fun k hk=>by
     have:=tw_lt nameB (l.drop i) k hk
     simpa [List.getElem?_drop] using this
   have hat:∀c,l[i+spanL nameB l i]? = some c→nameB c=false:=fun c hc=>tw_at nameB (l.drop i) c (by rw[List.getElem?_drop];exact hc)
   generalize hm:spanL nameB l i=m at *
   have H:=Lib.hid (And.intro hlt hat)
   clear hlt hat hm
   go_enter Tryz.func122,Tryz.ntmps122
   go_wp2
   go_step3
   go_wp2
   go_step3
   go_wp2
   go_loop [7] (fun n=>∃k:Nat,k≤m∧n=.int .i64 k) (fun n=>m-(intOf n).toNat)
   case atStart=>exact⟨0,by omega,rfl⟩
   case round=>
     obtain⟨k,hk,rfl⟩:=hrel
     by_cases hkm:k<m
     ·obtain⟨c,hc,hp⟩:=H.out.1 k hkm
      obtain⟨hb1,hb2⟩:=List.getElem?_eq_some_iff.1 hc
      have hSj2:(ByteArray.mk l.toArray)[i+k]'(show i+k<l.length from hb1)=c:=hb2
      have k2:(i:Int)+(k:Int)<(l.length:Int):=by omega
      have k3:(0:Int)≤(i:Int)+(k:Int):=by omega
      have k4:((i:Int)+(k:Int)).toNat=i+k:=by omega
      have HP:=Lib.hid hp
      clear hc hb2 hp
      go_wp2_with (go_at_call 162;refine(name1_m c _).mono ?_;rintro e w' ⟨rfl,rfl⟩;rw[HP.out])
      exact⟨⟨k+1,by omega,by go_num⟩,by simp[intOf];omega⟩
     ·obtain rfl:k=m:=by omega
      by_cases hend:i+k=l.length
      ·have k2:¬(i:Int)+(k:Int)<(l.length:Int):=by omega
       go_wp2
       try rw[Exit.noGoto_ret]
       go_ret
       exact⟨rfl,rfl⟩
      ·obtain⟨c,hc⟩:∃c,l[i+k]? = some c:=⟨_,List.getElem?_eq_getElem (by omega)⟩
       have hp:=H.out.2 c hc
       obtain⟨hb1,hb2⟩:=List.getElem?_eq_some_iff.1 hc
       have hSj2:(ByteArray.mk l.toArray)[i+k]'(show i+k<l.length from hb1)=c:=hb2
       have k2:(i:Int)+(k:Int)<(l.length:Int):=by omega
       have k3:(0:Int)≤(i:Int)+(k:Int):=by omega
       have k4:((i:Int)+(k:Int)).toNat=i+k:=by omega
       have HP:=Lib.hid hp
       clear hc hb2 hp
       go_wp2_with (go_at_call 162;refine(name1_m c _).mono ?_;rintro e w' ⟨rfl,rfl⟩;rw[HP.out])
       try rw[Exit.noGoto_ret]
       go_ret
       exact⟨rfl,rfl⟩
set_option maxHeartbeats 1000000 in
theorem span_dig (l:List UInt8) (i:Nat) (w:World) (hi:i≤100000) (hl:l.length≤100000) :
    Calls Tryz.prog 122 #[.string ⟨l.toArray⟩,.int .i64 (i:Int),.func (.func 123) #[] #[]] w fun e w'=>e=.returned (.int .i64 (spanL digB l i:Int))∧w=w':=by
  have k0:decide ((i:Int)<0)=false:=by simp
  by_cases hil:l.length≤i
  ·have k1:decide ((l.length:Int)≤(i:Int))=true:=by simp;omega
   have e:spanL digB l i=0:=by have:=spanL_le digB l i;omega
   rw[e]
   clear e
   go_enter Tryz.func122,Tryz.ntmps122
   go_wp2
   go_step3
   go_wp2
   try rw[Exit.noGoto_ret]
   go_ret
   exact⟨rfl,rfl⟩
  ·have k1:decide ((l.length:Int)≤(i:Int))=false:=by simp;omega
   have hsl:=spanL_le digB l i
   have hlt:∀k,k<spanL digB l i→∃c,l[i+k]? = some c∧digB c=true:=fun k hk=>by
     have:=tw_lt digB (l.drop i) k hk
     simpa [List.getElem?_drop] using this
   have hat:∀c,l[i+spanL digB l i]? = some c→digB c=false:=fun c hc=>tw_at digB (l.drop i) c (by rw[List.getElem?_drop];exact hc)
   generalize hm:spanL digB l i=m at *
   have H:=Lib.hid (And.intro hlt hat)
   clear hlt hat hm
   go_enter Tryz.func122,Tryz.ntmps122
   go_wp2
   go_step3
   go_wp2
   go_step3
   go_wp2
   go_loop [7] (fun n=>∃k:Nat,k≤m∧n=.int .i64 k) (fun n=>m-(intOf n).toNat)
   case atStart=>exact⟨0,by omega,rfl⟩
   case round=>
     obtain⟨k,hk,rfl⟩:=hrel
     by_cases hkm:k<m
     ·obtain⟨c,hc,hp⟩:=H.out.1 k hkm
      obtain⟨hb1,hb2⟩:=List.getElem?_eq_some_iff.1 hc
      have hSj2:(ByteArray.mk l.toArray)[i+k]'(show i+k<l.length from hb1)=c:=hb2
      have k2:(i:Int)+(k:Int)<(l.length:Int):=by omega
      have k3:(0:Int)≤(i:Int)+(k:Int):=by omega
      have k4:((i:Int)+(k:Int)).toNat=i+k:=by omega
      have HP:=Lib.hid hp
      clear hc hb2 hp
      go_wp2_with (go_at_call 123;refine(digit_m c _).mono ?_;rintro e w' ⟨rfl,rfl⟩;rw[HP.out])
      exact⟨⟨k+1,by omega,by go_num⟩,by simp[intOf];omega⟩
     ·obtain rfl:k=m:=by omega
      by_cases hend:i+k=l.length
      ·have k2:¬(i:Int)+(k:Int)<(l.length:Int):=by omega
       go_wp2
       try rw[Exit.noGoto_ret]
       go_ret
       exact⟨rfl,rfl⟩
      ·obtain⟨c,hc⟩:∃c,l[i+k]? = some c:=⟨_,List.getElem?_eq_getElem (by omega)⟩
       have hp:=H.out.2 c hc
       obtain⟨hb1,hb2⟩:=List.getElem?_eq_some_iff.1 hc
       have hSj2:(ByteArray.mk l.toArray)[i+k]'(show i+k<l.length from hb1)=c:=hb2
       have k2:(i:Int)+(k:Int)<(l.length:Int):=by omega
       have k3:(0:Int)≤(i:Int)+(k:Int):=by omega
       have k4:((i:Int)+(k:Int)).toNat=i+k:=by omega
       have HP:=Lib.hid hp
       clear hc hb2 hp
       go_wp2_with (go_at_call 123;refine(digit_m c _).mono ?_;rintro e w' ⟨rfl,rfl⟩;rw[HP.out])
       try rw[Exit.noGoto_ret]
       go_ret
       exact⟨rfl,rfl⟩
def nmL (l:List UInt8) (i:Nat):Nat:=if spanL letB l i=0 then 0 else spanL nameB l i
theorem span_head (p:UInt8→Bool) (l:List UInt8) (i:Nat):spanL p l i=0↔∀c,l[i]? = some c→p c=false:=by
  unfold spanL
  have e:(l.drop i)[0]? = l[i]? := by rw[List.getElem?_drop];rfl
  rw[←e]
  cases h:l.drop i with
  | nil=>simp
  | cons d m=>
    by_cases hd:p d=true
    ·simp[List.takeWhile_cons_of_pos hd,hd]
    ·simp[List.takeWhile_cons_of_neg hd,hd]
theorem nmL_eq (l:List UInt8) (i:Nat):nmL l i=nameLen (l.drop i):=by
  unfold nmL nameLen
  have e:(l.drop i)[0]? = l[i]? := by rw[List.getElem?_drop];rfl
  by_cases h:spanL letB l i=0
  ·rw[if_pos h]
   rw[span_head] at h
   rw[←e] at h
   cases hd:l.drop i with
   | nil=>rfl
   | cons d m=>
     rw[hd] at h
     simp only
     rw[if_neg (by rw[h d rfl];simp)]
  ·rw[if_neg h]
   unfold spanL at h ⊢
   cases hd:l.drop i with
   | nil=>rw[hd] at h;simp at h
   | cons d m=>
     rw[hd] at h
     have hl:letB d=true:=by
       by_cases hc:letB d=true
       ·exact hc
       ·rw[List.takeWhile_cons_of_neg hc] at h;simp at h
     simp only
     rw[if_pos hl]
theorem nmL_le (l:List UInt8) (i:Nat):nmL l i≤l.length-i:=by
  unfold nmL
  split
  ·omega
  ·exact spanL_le _ _ _
theorem parL_eq (l:List UInt8) (i:Nat):parL l i=if 0<nmL l i then nmL l i else match l[i]? with
    | none=>0
    | some c=>if spcB c=true∨digB c=true then 1 else 0:=by
  unfold parL paramLen
  rw[nmL_eq]
  have e:(l.drop i)[0]? = l[i]? := by rw[List.getElem?_drop];rfl
  rw[←e]
  cases l.drop i<;>rfl
theorem parL_le (l:List UInt8) (i:Nat):parL l i≤l.length-i:=by
  rw[parL_eq]
  split
  ·exact nmL_le _ _
  ·cases h:l[i]? with
   | none=>simp
   | some c=>
     have:=(List.getElem?_eq_some_iff.1 h).1
     simp only
     split<;>omega
theorem name_m (l:List UInt8) (i:Nat) (w:World) (hi:i≤100000) (hl:l.length≤100000) :
    Calls Tryz.prog 145 #[.string ⟨l.toArray⟩,.int .i64 (i:Int)] w fun e w'=>e=.returned (.int .i64 (nmL l i:Int))∧w=w':=by
  unfold nmL
  by_cases h0:spanL letB l i=0
  ·rw[if_pos h0]
   have k0:((spanL letB l i:Int)==0)=true:=by simp[h0]
   clear h0
   go_enter Tryz.func145,Tryz.ntmps145
   go_wp2_with (go_at_call 122;with_reducible refine(span_let l i _ hi hl).mono ?_;rintro e w' ⟨rfl,rfl⟩)
   go_ret
   exact⟨rfl,rfl⟩
  ·rw[if_neg h0]
   have k0:((spanL letB l i:Int)==0)=false:=by simp[h0]
   clear h0
   go_enter Tryz.func145,Tryz.ntmps145
   go_wp2_with (first
     | (go_at_call 122;with_reducible refine(span_let l i _ hi hl).mono ?_;rintro e w' ⟨rfl,rfl⟩)
     | (go_at_call 122;with_reducible refine(span_nam l i _ hi hl).mono ?_;rintro e w' ⟨rfl,rfl⟩))
   go_ret
   exact⟨rfl,rfl⟩
theorem digits_m (l:List UInt8) (i:Nat) (w:World) (hi:i≤100000) (hl:l.length≤100000) :
    Calls Tryz.prog 92 #[.string ⟨l.toArray⟩,.int .i64 (i:Int)] w fun e w'=>e=.returned (.int .i64 (spanL digB l i:Int))∧w=w':=by
  go_enter Tryz.func92,Tryz.ntmps92
  go_wp2_with (go_at_call 122;with_reducible refine(span_dig l i _ hi hl).mono ?_;rintro e w' ⟨rfl,rfl⟩)
  go_ret
  exact⟨rfl,rfl⟩
theorem spc_or (c:UInt8) (h:spcB c=true):c=64∨c=42∨c=35∨c=63∨c=45∨c=36∨c=33:=by
  have:=byte_all (fun c => !spcB c||(c==64||c==42||c==35||c==63||c==45||c==36||c==33)) (by decide +kernel) c
  simpa [h,or_assoc] using this
theorem spc_not (c:UInt8) (h:spcB c=false):((c.toNat:Int)==64)=false∧((c.toNat:Int)==42)=false∧((c.toNat:Int)==35)=false∧((c.toNat:Int)==63)=false∧((c.toNat:Int)==45)=false∧((c.toNat:Int)==36)=false∧((c.toNat:Int)==33)=false:=by
  have:=byte_all (fun c=>spcB c||(((c.toNat:Int)==64)==false&&((c.toNat:Int)==42)==false&&((c.toNat:Int)==35)==false&&((c.toNat:Int)==63)==false&&((c.toNat:Int)==45)==false&&((c.toNat:Int)==36)==false&&((c.toNat:Int)==33)==false)) (by decide +kernel) c
  simpa [h,and_assoc] using this
set_option maxHeartbeats 1000000 in
theorem param_m (l:List UInt8) (i:Nat) (w:World) (hi:i≤100000) (hl:l.length≤100000) :
    Calls Tryz.prog 157 #[.string ⟨l.toArray⟩,.int .i64 (i:Int)] w fun e w'=>e=.returned (.int .i64 (parL l i:Int))∧w=w':=by
  have e:=parL_eq l i
  have k0:decide ((i:Int)<0)=false:=by simp
  by_cases h0:0<nmL l i
  ·rw[if_pos h0] at e
   rw[e]
   have k1:decide ((0:Int)<(nmL l i:Int))=true:=by simp;omega
   clear e
   go_enter Tryz.func157,Tryz.ntmps157
   go_wp2_with (go_at_call 145;with_reducible refine(name_m l i _ hi hl).mono ?_;rintro e w' ⟨rfl,rfl⟩)
   go_ret
   exact⟨rfl,rfl⟩
  ·rw[if_neg h0] at e
   have k1:decide ((0:Int)<(nmL l i:Int))=false:=by simp;omega
   by_cases hil:l.length≤i
   ·rw[List.getElem?_eq_none hil] at e
    rw[e]
    have k2:decide ((l.length:Int)≤(i:Int))=true:=by simp;omega
    clear e
    go_enter Tryz.func157,Tryz.ntmps157
    go_wp2_with (go_at_call 145;with_reducible refine(name_m l i _ hi hl).mono ?_;rintro e w' ⟨rfl,rfl⟩)
    go_ret
    exact⟨rfl,rfl⟩
   ·obtain⟨c,hc⟩:∃c,l[i]? = some c:=⟨_,List.getElem?_eq_getElem (by omega)⟩
    rw[hc] at e
    simp only at e
    have hd:=span_head digB l i
    rw[hc] at hd
    obtain⟨hb1,hb2⟩:=List.getElem?_eq_some_iff.1 hc
    have k2:decide ((l.length:Int)≤(i:Int))=false:=by simp;omega
    have k3:(i:Int)<(l.length:Int):=by omega
    have k4:(0:Int)≤(i:Int):=by omega
    have hSj2:(ByteArray.mk l.toArray)[i]'(show i<l.length from hb1)=c:=hb2
    clear hc hb2
    by_cases hs:spcB c=true
    ·rw[if_pos (.inl hs)] at e
     rw[e]
     clear e hd
     rcases spc_or c hs with rfl|rfl|rfl|rfl|rfl|rfl|rfl
     all_goals (
       clear hs
       go_enter Tryz.func157,Tryz.ntmps157
       go_wp2_with (go_at_call 145;with_reducible refine(name_m l i _ hi hl).mono ?_;rintro e w' ⟨rfl,rfl⟩)
       go_ret
       exact⟨rfl,rfl⟩)
    ·have hs':spcB c=false:=by simpa using hs
     obtain⟨s1,s2,s3,s4,s5,s6,s7⟩:=spc_not c hs'
     by_cases hg:digB c=true
     ·rw[if_pos (.inr hg)] at e
      have hn:spanL digB l i≠0:=fun h=>by have:=hd.1 h c rfl;rw[hg] at this;cases this
      have k5:decide ((1:Int)≤(spanL digB l i:Int))=true:=by simp;omega
      have k6:min (spanL digB l i:Int) 1=1:=by omega
      rw[e]
      have HX:=Lib.hid hn
      clear e hd hs hs' hg hn k6
      go_enter Tryz.func157,Tryz.ntmps157
      go_wp2_with (first
        | (go_at_call 145;with_reducible refine(name_m l i _ hi hl).mono ?_;rintro e w' ⟨rfl,rfl⟩)
        | (go_at_call 92;with_reducible refine(digits_m l i _ hi hl).mono ?_;rintro e w' ⟨rfl,rfl⟩))
      all_goals (
        go_ret
        exact⟨ret_int (by have:=HX.out;first|rfl|omega),rfl⟩)
     ·rw[if_neg (fun h=>by rcases h with h|h;exact hs h;exact hg h)] at e
      have hn:spanL digB l i=0:=hd.2 (fun d hd'=>by cases hd';simpa using hg)
      have hz:=Lib.hid hn
      rw[e]
      clear hd hs hs' hg hn
      go_enter Tryz.func157,Tryz.ntmps157
      go_wp2_with (first
        | (go_at_call 145;with_reducible refine(name_m l i _ hi hl).mono ?_;rintro e w' ⟨rfl,rfl⟩)
        | (go_at_call 92;with_reducible refine(digits_m l i _ hi hl).mono ?_;rintro e w' ⟨rfl,rfl⟩;rw[hz.out]))
      go_ret
      exact⟨rfl,rfl⟩
theorem param_i (l:List UInt8) (z:Int) (w:World) (h0:0≤z) (h1:z≤100000) (hl:l.length≤100000) :
    Calls Tryz.prog 157 #[.string ⟨l.toArray⟩,.int .i64 z] w fun e w'=>e=.returned (.int .i64 (parL l z.toNat:Int))∧w=w':=by
  obtain⟨i,rfl⟩:=Int.eq_ofNat_of_zero_le h0
  exact param_m l i w (by omega) hl
end Go.Proofs.YtlbfdbinaekjoaaGreatDoor
