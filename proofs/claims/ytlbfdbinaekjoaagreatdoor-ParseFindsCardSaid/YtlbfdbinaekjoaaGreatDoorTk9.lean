/- Package token: continued, blank, number. -/
import Derived.Test.YtlbfdbinaekjoaaGreatDoorLn9
import Derived.Test.YtlbfdbinaekjoaaGreatDoorOp9
namespace Go.Proofs.YtlbfdbinaekjoaaGreatDoor
open Go.RowKit
set_option linter.unusedVariables false
set_option linter.unusedSimpArgs false
set_option maxRecDepth 100000
set_option maxHeartbeats 1000000 in
theorem slprefix_m (s p:ByteArray) (w:World) :
    Calls Tryz.prog 121 #[.string s,.string p] w fun e w'=>e=.returned (.bool (Lib.hasPrefix s.data.toList p.data.toList))∧w=w':=by
  rw[←Lib.hasPrefix_of_take,←Lib.size_eq,←Lib.size_eq]
  go_enter Tryz.func121,Tryz.ntmps121
  go_wp2
  ·rename_i h
   go_ret
   refine⟨?_,rfl⟩
   show Ending.returned (Value.bool ((s.extract 0 p.size).toList==p.toList))=_
   rw[Lib.extract_toList,Lib.toList_data]
   simp[h]
  ·rename_i h
   go_ret
   refine⟨?_,rfl⟩
   show Ending.returned (Value.bool false)=_
   simp[h]
theorem prefix_m (s p:ByteArray) (w:World) :
    Calls Tryz.prog 91 #[.string s,.string p] w fun e w'=>e=.returned (.bool (Lib.hasPrefix s.data.toList p.data.toList))∧w=w':=by
  go_enter Tryz.func91,Tryz.ntmps91
  go_wp2_with (go_at_call 121;refine(slprefix_m _ _ _).mono ?_;rintro e w' ⟨rfl,rfl⟩)
  go_ret
  exact⟨rfl,rfl⟩
theorem cont_pre (l:List UInt8) (x:Nat):Lib.hasPrefix (l.drop x) [92,10]=contB l x:=by
  unfold contB
  match h:l.drop x with
  | []=>
    have h1:¬x+1<l.length:=by have:=congrArg List.length h;simp at this;omega
    simp[Lib.hasPrefix,h1]
  | [a]=>
    have h1:¬x+1<l.length:=by have:=congrArg List.length h;simp at this;omega
    simp[Lib.hasPrefix,List.isPrefixOf,h1]
  | a::b::r=>
    have h1:x+1<l.length:=by have:=congrArg List.length h;simp at this;omega
    have e0:l.getD x 0=a:=by have:(l.drop x).getD 0 0=a:=by rw[h];rfl
                             rw[←this];simp[List.getD_eq_getElem?_getD]
    have e1:l.getD (x+1) 0=b:=by have:(l.drop x).getD 1 0=b:=by rw[h];rfl
                                 rw[←this];simp[List.getD_eq_getElem?_getD]
    rw[e0,e1,decide_eq_true h1]
    have ha:=byte_all (fun a=>((92:UInt8)==a)==(a.toNat==92)) (by decide +kernel) a
    have hb:=byte_all (fun a=>((10:UInt8)==a)==(a.toNat==10)) (by decide +kernel) b
    simp only[beq_iff_eq] at ha hb
    show (((92:UInt8)==a)&&(((10:UInt8)==b)&&true))=(true&&a.toNat==92&&b.toNat==10)
    rw[ha,hb,Bool.and_true,Bool.true_and]
theorem cont_m (l:List UInt8) (x:Nat) (w:World) (hl:l.length≤100000) (hx:x≤l.length) :
    Calls Tryz.prog 74 #[.string ⟨l.toArray⟩,.int .i64 (x:Int)] w fun e w'=>e=.returned (.bool (contB l x))∧w=w':=by
  have u1:(x:Int)≤(l.length:Int):=by omega
  have u2:(0:Int)≤(x:Int):=by omega
  have HP:=Lib.hid (show Lib.hasPrefix ((ByteArray.mk l.toArray).extract x l.length).data.toList [92,10]=contB l x by rw[ba_extract,List.take_length];exact cont_pre l x)
  go_enter Tryz.func74,Tryz.ntmps74
  go_wp2_with (
    (go_at_call 91
     refine(prefix_m _ _ _).mono ?_
     rintro e w' ⟨he,rfl⟩
     replace he:=he.trans (congrArg (fun b=>Ending.returned (Value.bool b)) HP.out)
     subst he))
  go_ret
  exact⟨rfl,rfl⟩
theorem cls_blank (c:UInt8):(clsOf c==1)=blankB c:=by
  have:=byte_all (fun c=>(clsOf c==1)==blankB c) (by decide +kernel) c
  simpa using this
set_option maxHeartbeats 1000000 in
theorem blank_m (l:List UInt8) (x:Nat) (w:World) (hl:l.length≤100000) (hx:x≤l.length) :
    Calls Tryz.prog 75 #[.string ⟨l.toArray⟩,.int .i64 (x:Int)] w fun e w'=>e=.returned (.int .i64 (blankL l x:Int))∧w=w':=by
  obtain⟨H,hH⟩:∃H,H=blankL l x:=⟨_,rfl⟩
  rw[←hH]
  have HH:=Lib.hid hH
  clear hH
  go_enter Tryz.func75,Tryz.ntmps75
  go_wp2
  go_loop [1] (fun i=>∃k:Nat,k≤l.length∧i=.int .i64 k∧blankL l k=H) (fun i=>l.length-(intOf i).toNat)
  case atStart=>exact⟨x,hx,rfl,HH.out.symm⟩
  case round=>
    obtain⟨k,hk,rfl,he⟩:=hrel
    by_cases hlt:k<l.length
    ·have u1:(k:Int)<(l.length:Int):=by omega
     have u2:(0:Int)≤(k:Int):=by omega
     obtain⟨d,hd⟩:∃d,l[k]? = some d:=⟨_,List.getElem?_eq_getElem hlt⟩
     obtain⟨hL1,hL2⟩:=List.getElem?_eq_some_iff.1 hd
     have hL:∃h:k<(ByteArray.mk l.toArray).size,(ByteArray.mk l.toArray)[k]'h=d:=⟨hL1,hL2⟩
     obtain⟨hL3,hL4⟩:=hL
     have hg:l.getD k 0=d:=by rw[List.getD_eq_getElem?_getD,hd];rfl
     rw[blankL_eq,if_pos hlt,hg] at he
     clear hd hL2 hg
     cases hb:blankB d
     ·have c1:(clsOf d==1)=false:=by rw[cls_blank,hb]
      rw[if_neg (by rw[hb];decide)] at he
      cases hc:contB l k
      ·have HE:=Lib.hid (show k=H by rw[←he,if_neg (by rw[hc];decide)])
       have HC:=Lib.hid hc
       clear he hb hc
       go_wp2_with (first
         | (go_at_call 73
            refine(of_c _ _).mono ?_
            rintro e w2 ⟨rfl,rfl⟩)
         | (go_at_call 74
            refine(cont_m l k _ hl hk).mono ?_
            rintro e w2 ⟨he,rfl⟩
            rw[HC.out] at he
            subst he))
       go_ret
       exact⟨by rw[←HE.out];rfl,by first|rfl|trivial⟩
      ·have hc2:k+2≤l.length:=by unfold contB at hc;simp at hc;omega
       have HE:=Lib.hid (show blankL l (k+2)=H by rw[←he,if_pos (by rw[hc])])
       have HC:=Lib.hid hc
       clear he hb hc
       go_wp2_with (first
         | (go_at_call 73
            refine(of_c _ _).mono ?_
            rintro e w2 ⟨rfl,rfl⟩)
         | (go_at_call 74
            refine(cont_m l k _ hl hk).mono ?_
            rintro e w2 ⟨he,rfl⟩
            rw[HC.out] at he
            subst he))
       exact⟨⟨k+2,hc2,by go_num,HE.out⟩,by simp[intOf];omega⟩
     ·have c1:(clsOf d==1)=true:=by rw[cls_blank,hb]
      have HE:=Lib.hid (show blankL l (k+1)=H by rw[←he,if_pos hb])
      clear he hb
      go_wp2_with (
        (go_at_call 73
         refine(of_c _ _).mono ?_
         rintro e w2 ⟨rfl,rfl⟩))
      exact⟨⟨k+1,by omega,by go_num,HE.out⟩,by simp[intOf];omega⟩
    ·have HE:=Lib.hid (show k=H by rw[←he,blankL_eq,if_neg hlt])
     clear he
     go_wp2
     go_ret
     exact⟨by rw[←HE.out];rfl,by first|rfl|trivial⟩
set_option maxHeartbeats 1000000 in
theorem number_m (l:List UInt8) (x:Nat) (w:World) (hl:l.length≤100000) (hx:x≤l.length) :
    Calls Tryz.prog 77 #[.string ⟨l.toArray⟩,.int .i64 (x:Int)] w fun e w'=>e=.returned (.int .i64 ((if numB l x=true then x+digN l x else x:Nat):Int))∧w=w':=by
  have hsl:=spanL_le digB l x
  obtain⟨n,hn⟩:∃n,n=spanL digB l x:=⟨_,rfl⟩
  have hB:numB l x=(decide (0<n)&&decide (x+n<l.length)&&((l.getD (x+n) 0).toNat==60||(l.getD (x+n) 0).toNat==62)):=by unfold numB;rw[hn]
  have hR:(if numB l x=true then x+digN l x else x:Nat)=if numB l x=true then x+n else x:=by rw[hn]
  rw[hR]
  obtain⟨r,hr⟩:∃r,r=if numB l x=true then x+n else x:=⟨_,rfl⟩
  rw[←hr]
  rw[hB] at hr
  have HH:=Lib.hid hn.symm
  rw[←hn] at hsl
  have hnx:n≤100000:=by omega
  clear hn hR hB hsl
  by_cases h0:0<n
  ·have c0:(x:Int)<(x:Int)+(n:Int):=by omega
   by_cases h1:x+n<l.length
   ·have u1:(x:Int)+(n:Int)<(l.length:Int):=by omega
    have u2:(0:Int)≤(x:Int)+(n:Int):=by omega
    have u3:((x:Int)+(n:Int)).toNat=x+n:=by omega
    obtain⟨d,hd⟩:∃d,l[x+n]? = some d:=⟨_,List.getElem?_eq_getElem h1⟩
    obtain⟨hL1,hL2⟩:=List.getElem?_eq_some_iff.1 hd
    have hL:∃h:x+n<(ByteArray.mk l.toArray).size,(ByteArray.mk l.toArray)[x+n]'h=d:=⟨hL1,hL2⟩
    obtain⟨hL3,hL4⟩:=hL
    have hg:l.getD (x+n) 0=d:=by rw[List.getD_eq_getElem?_getD,hd];rfl
    rw[hg,decide_eq_true h0,decide_eq_true h1,Bool.true_and,Bool.true_and] at hr
    have e60:((d.toNat:Int)==60)=(d.toNat==60):=by rw[Bool.eq_iff_iff];simp;omega
    have e62:((d.toNat:Int)==62)=(d.toNat==62):=by rw[Bool.eq_iff_iff];simp;omega
    cases h60:(d.toNat==60)
    ·cases h62:(d.toNat==62)
     rw[h60] at e60
     rw[h62] at e62
     rw[h60,h62] at hr
     have HR:=Lib.hid (show Ending.returned (Value.int .i64 (x:Int))=Ending.returned (.int .i64 (r:Int)) by rw[show r=x from hr])
     rotate_left
     rw[h60] at e60
     rw[h62] at e62
     rw[h60,h62] at hr
     have HR:=Lib.hid (show Ending.returned (Value.int .i64 ((x:Int)+(n:Int)))=Ending.returned (.int .i64 (r:Int)) by rw[show r=x+n from hr];rfl)
     rotate_left
     all_goals (
       clear hr hd hL2 hg h60 h62
       go_enter Tryz.func77,Tryz.ntmps77
       go_wp2_with (
         (go_at_call 92
          refine(digits_m l x _ (by omega) (by omega)).mono ?_
          rintro e w2 ⟨he,rfl⟩
          rw[HH.out] at he
          subst he))
       go_ret
       exact⟨HR.out,by first|rfl|trivial⟩)
    ·rw[h60] at e60
     rw[h60] at hr
     have HR:=Lib.hid (show Ending.returned (Value.int .i64 ((x:Int)+(n:Int)))=Ending.returned (.int .i64 (r:Int)) by rw[show r=x+n from hr];rfl)
     clear hr hd hL2 hg e62 h60
     go_enter Tryz.func77,Tryz.ntmps77
     go_wp2_with (
       (go_at_call 92
        refine(digits_m l x _ (by omega) (by omega)).mono ?_
        rintro e w2 ⟨he,rfl⟩
        rw[HH.out] at he
        subst he))
     go_ret
     exact⟨HR.out,by first|rfl|trivial⟩
   ·have u1:¬(x:Int)+(n:Int)<(l.length:Int):=by omega
    rw[decide_eq_false h1] at hr
    have HR:=Lib.hid (show Ending.returned (Value.int .i64 (x:Int))=Ending.returned (.int .i64 (r:Int)) by rw[show r=x from by simpa using hr])
    clear hr
    go_enter Tryz.func77,Tryz.ntmps77
    go_wp2_with (
      (go_at_call 92
       refine(digits_m l x _ (by omega) (by omega)).mono ?_
       rintro e w2 ⟨he,rfl⟩
       rw[HH.out] at he
       subst he))
    go_ret
    exact⟨HR.out,by first|rfl|trivial⟩
  ·have h0:n=0:=by omega
   subst h0
   have HR:=Lib.hid (show Ending.returned (Value.int .i64 (x:Int))=Ending.returned (.int .i64 (r:Int)) by rw[show r=x from by simpa using hr])
   clear hr
   go_enter Tryz.func77,Tryz.ntmps77
   go_wp2_with (
     (go_at_call 92
      refine(digits_m l x _ (by omega) (by omega)).mono ?_
      rintro e w2 ⟨he,rfl⟩
      rw[HH.out] at he
      subst he))
   go_ret
   exact⟨HR.out,by first|rfl|trivial⟩
end Go.Proofs.YtlbfdbinaekjoaaGreatDoor
