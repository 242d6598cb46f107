/- The parser with more fuel; ParseLines: the walk. -/
import Derived.Test.YtokmnkmpdnlnaaaGreatDoorCl13
namespace Go.Proofs.YtokmnkmpdnlnaaaGreatDoor
open Go.RowKit
set_option linter.unusedVariables false
set_option linter.unusedSimpArgs false
set_option maxRecDepth 100000
theorem parN_ok (F:List Lf) (m:Nat):Gd F.length 5 (ps0 0) (parN F m)∧(parN F m).l.length≤16*F.length+5:=by
  have h:=fun t (ht:t.p=(ps0 0).p)=>gd_prog (gd_lstF F m) _ (t,false) rfl (by rw[ht];exact Nat.zero_le _)
  have h1:Gd F.length 5 (ps0 0) (parN F m):=Gd.node0 (A:=4) fun t ht _=>(h t ht).1
  refine⟨h1,?_⟩
  have h2:=h1.b
  have h3:=h1.N
  have e1:(ps0 0).l.length=0:=rfl
  have e2:(ps0 0).p=0:=rfl
  omega
set_option maxHeartbeats 2000000 in
theorem parse_n (F:List Lf) (m:Nat) (hm:F.length+1≤m) (fv:Value) (w:World) (hF:FB F) (hR:Rd w w.heap.size 4 fv F.length (lfcs F)) :
    Calls Tryz.prog 13 #[fv] w fun e w'=>∃v,e=.returned v∧w'.ownsRow w.heap.size 32 4 v (parN F m).l.length (ndcs (parN F m).l)∧Below w.heap.size w w':=by
  have hL:=gd_lstF F m
  have hi:Bd F 1 (inN 1 (ps0 0)):=⟨Nat.zero_le _,by show (([]:List Nd)++[_]).length≤46*0+1;simp,by show 0≤200;omega⟩
  have hg:=gd_prog hL _ (inN 1 (ps0 0),false) rfl hi.p
  have hn:=hF.n
  have hx:∀W0,Mk w.heap.size fv F (ps0 0) W0→Calls Tryz.prog 27 #[.pointer (some ⟨w.heap.size,0,none⟩),.int .i64 1,.func (.func 28) #[.pointer (some ⟨w.heap.size,0,none⟩)] #[]] W0 fun e w'=>e=.returned (.tuple #[])∧Mz w.heap.size fv F W0 (parN F m) w':=fun W0 h0=>by
    have h1:=hg.1.l
    have h2:=hg.2
    have h3:(inN 1 (ps0 0)).l.length=1:=rfl
    rw[h3] at h1
    exact node_v (t:=(progP F (lstF F m) (inN 1 (ps0 0),false)).1) 1 _ h0 (by show 0≤50000;omega) (by omega) (enters_of Tryz.func28 (by kernel_rfl) rfl)
      (fun W1 z1=>program_m (q:=0) hF hL (list_m hF m 0 (by omega)) z1.m rfl (hi.mono (by omega)) ⟨hi.p,hi.d,by show 1+4≤16*0+5;omega,rfl⟩) (Nat.lt_of_lt_of_le Nat.zero_lt_one h1) (by show (progP F (lstF F m) (inN 1 (ps0 0),false)).1.p≤100000;rw[h2];omega)
  obtain⟨A,c,rfl⟩:=hR.formm
  have HX:=Lib.hid hx
  have HR:=Lib.hid hR
  clear hx hR hg hi hL
  go_enter Tryz.func13,Tryz.ntmps13
  go_upto_region 2 with fail
  refine gen1 fun W0 hb0 k0 hs0=>?_
  have M0:Mk w.heap.size _ F (ps0 0) W0:=⟨⟨.slice none 0 0,k0,own_nil _ _ _ _⟩,HR.out.keep hb0 (Nat.le_refl _)⟩
  have HM:=Lib.hid M0
  have HB:=Lib.hid hb0
  clear hb0 k0 hs0 M0
  go_wp2_with (
    (go_at_call 27
     refine(HX.out _ HM.out).mono ?_
     rintro e w1 ⟨rfl,hz⟩
     obtain⟨lv,hb1,ho1⟩:=hz.m.w
     obtain⟨c0,c1,c2,c3,c4⟩:=hb1.fivem
     have H1:=Lib.hid (And.intro hz.f.hb ho1)
     clear hz hb1 ho1))
  go_ret
  exact⟨_,rfl,H1.out.2,HB.out.trans H1.out.1⟩
theorem one_lfcs (F:List Lf):∀u∈lfcs F,u.oneCell'=true:=by
  intro u hu
  obtain⟨x,_,hx⟩:=List.mem_flatMap.1 hu
  simp[lfc] at hx
  rcases hx with rfl|rfl|rfl|rfl<;>rfl
theorem lfcs_app3 (F M:List Lf):lfcs (F++M)=lfcs F++lfcs M:=by simp[lfcs]
def nlLf:Lf:=⟨2,[10],0,0⟩
theorem shF_30 {F:List Lf} (h:shF F 30=true):F.length≤30∧∀x∈F,x.tx.length≤60:=by
  unfold shF at h
  rw[Bool.and_eq_true] at h
  refine⟨by have:=of_decide_eq_true h.1;omega,fun x hx=>of_decide_eq_true (List.all_eq_true.1 h.2 x hx)⟩
set_option maxHeartbeats 8000000 in
theorem parseLines_w (F M:List Lf) (A A':Option Addr) (n c n' c':Nat) (w:World) (hrd:Rd w w.heap.size 4 (.slice A n c) n (lfcs F)) (hn:n=F.length) (hm1:n≤9223372036854775807) (hrd':Rd w w.heap.size 4 (.slice A' n' c') n' (lfcs M)) (hn':n'=M.length) (hm1':n'≤9223372036854775807) :
    Calls Tryz.prog 8 #[.slice A n c,.slice A' n' c'] w fun e w'=>e=.returned (.bool true)∧Below w.heap.size w w':=by
  subst hn hn'
  have s1:∀W,Below w.heap.size w W→Calls Tryz.prog 11 #[.slice A F.length c,.int .i64 30] W fun e w'=>e=.returned (.bool (shF F 30))∧w'=W:=
    fun W hW=>short_m F A c 30 W hm1 ((hrd.keep hW (Nat.le_refl _)).mono hW.size)
  have s2:∀W,Below w.heap.size w W→Calls Tryz.prog 11 #[.slice A' M.length c',.int .i64 30] W fun e w'=>e=.returned (.bool (shF M 30))∧w'=W:=
    fun W hW=>short_m M A' c' 30 W hm1' ((hrd'.keep hW (Nat.le_refl _)).mono hW.size)
  cases hsh:(shF F 30&&shF M 30) with
  | false=>
    cases hs1:shF F 30
    case' true=>
      have hs2:shF M 30=false:=by rw[hs1,Bool.true_and] at hsh;exact hsh
      rw[hs2] at s2
      clear hs2
    all_goals (
      rw[hs1] at s1
      have HS:=Lib.hid (And.intro s1 s2)
      clear s1 s2 hrd hrd' hsh hs1
      go_enter Tryz.func8,Tryz.ntmps8
      go_wp2_with (first
        | (go_at_call 10
           refine(awake13_c _).mono ?_
           rintro e w1 ⟨rfl,hb⟩
           have H1:=Lib.hid hb
           clear hb)
        | (go_at_call 11
           with_reducible refine(HS.out.1 _ H1.out).mono ?_
           rintro e w2 ⟨rfl,rfl⟩)
        | (go_at_call 11
           with_reducible refine(HS.out.2 _ H1.out).mono ?_
           rintro e w2 ⟨rfl,rfl⟩)
        | fail)
      go_ret
      exact⟨rfl,H1.out⟩)
  | true=>
    rw[Bool.and_eq_true] at hsh
    obtain⟨hl,ht⟩:=shF_30 hsh.1
    obtain⟨hl',ht'⟩:=shF_30 hsh.2
    rw[hsh.1] at s1
    rw[hsh.2] at s2
    have hF:FB F:=⟨by omega,fun x hx=>by have:=ht x hx;omega⟩
    have hM:FB M:=⟨by omega,fun x hx=>by have:=ht' x hx;omega⟩
    have hG:FB (F++nlLf::M):=⟨by simp;omega,fun x hx=>by
      rcases List.mem_append.1 hx with h|h
      ·exact hF.t x h
      ·rcases List.mem_cons.1 h with rfl|h
       ·decide
       ·exact hM.t x h⟩
    have lF:=(parN_ok F 70).2
    have lM:=(parN_ok M 70).2
    have lG:=(parN_ok (F++nlLf::M) 70).2
    have hlG:(F++nlLf::M).length=F.length+1+M.length:=by simp;omega
    have hP:∀W,Below w.heap.size w W→Calls Tryz.prog 13 #[.slice A F.length c] W fun e w'=>∃v,e=.returned v∧w'.ownsRow W.heap.size 32 4 v (parN F 70).l.length (ndcs (parN F 70).l)∧Below W.heap.size W w':=
      fun W hW=>parse_n F 70 (by omega) _ W hF ((hrd.keep hW (Nat.le_refl _)).mono hW.size)
    have hP':∀W,Below w.heap.size w W→Calls Tryz.prog 13 #[.slice A' M.length c'] W fun e w'=>∃v,e=.returned v∧w'.ownsRow W.heap.size 32 4 v (parN M 70).l.length (ndcs (parN M 70).l)∧Below W.heap.size W w':=
      fun W hW=>parse_n M 70 (by omega) _ W hM ((hrd'.keep hW (Nat.le_refl _)).mono hW.size)
    have hPG:=fun fv W hR=>parse_n (F++nlLf::M) 70 (by omega) fv W hG hR
    have hjoin:=join_law 69 F M nlLf rfl
    rw[show (69:Nat)+1=70 from rfl] at hjoin
    obtain⟨X,hX⟩:∃X,X=(parN F 70).l:=⟨_,rfl⟩
    obtain⟨Y,hY⟩:∃Y,Y=(parN M 70).l:=⟨_,rfl⟩
    obtain⟨Z,hZ⟩:∃Z,Z=(parN (F++nlLf::M) 70).l:=⟨_,rfl⟩
    rw[←hX] at hP hjoin lF
    rw[←hY] at hP' hjoin lM
    rw[←hZ] at hPG hjoin lG
    have hX9:X.length≤100000:=by omega
    have hY9:Y.length≤100000:=by omega
    have hZ9:Z.length≤100000:=by omega
    have cX:=fun (A1:Option Addr) (c1:Nat) (W:World)=>clean13_r X A1 c1 W hX9
    have cY:=fun (A1:Option Addr) (c1:Nat) (W:World)=>clean13_r Y A1 c1 W hY9
    have cZ:=fun (A1:Option Addr) (c1:Nat) (W:World)=>clean13_r Z A1 c1 W hZ9
    have pX:=fun (A1:Option Addr) (c1:Nat) (W:World)=>pipes_l X A1 c1 W hX9
    have pY:=fun (A1:Option Addr) (c1:Nat) (W:World)=>pipes_l Y A1 c1 W hY9
    have pZ:=fun (A1:Option Addr) (c1:Nat) (W:World)=>pipes_l Z A1 c1 W hZ9
    clear hX hY hZ
    cases hcl:(decide (bad X=0)&&decide (bad Y=0)) with
    | false=>
      cases hb1:decide (bad X=0)
      case' true=>
        have hb2:decide (bad Y=0)=false:=by rw[hb1,Bool.true_and] at hcl;exact hcl
        rw[hb2] at cY
        clear hb2
      all_goals (
        rw[hb1] at cX
        have HC:=Lib.hid (And.intro s1 (And.intro s2 (And.intro hP (And.intro hP' (And.intro cX cY)))))
        clear s1 s2 hP hP' hPG cX cY cZ pX pY pZ hjoin hcl hb1 hrd hrd' hsh hF hM hG lF lM lG hlG ht ht'
        go_enter Tryz.func8,Tryz.ntmps8
        go_wp2_with (first
          | (go_at_call 10
             refine(awake13_c _).mono ?_
             rintro e w1 ⟨rfl,hb⟩
             have H1:=Lib.hid hb
             clear hb)
          | (go_at_call 11
             with_reducible refine(HC.out.1 _ H1.out).mono ?_
             rintro e w2 ⟨rfl,rfl⟩)
          | (go_at_call 11
             with_reducible refine(HC.out.2.1 _ H1.out).mono ?_
             rintro e w2 ⟨rfl,rfl⟩)
          | (go_at_call 13
             with_reducible refine(HC.out.2.2.2.1 _ H2.out.2).mono ?_
             rintro e w3 ⟨v,rfl,ho,hb⟩
             obtain⟨A3,n3,c3,rfl⟩:=own_form' ho
             have hn3:=own_len ho
             subst hn3
             have H3:=Lib.hid (And.intro (H2.out.1.next hb) (And.intro (Rd.of_own ho) (H2.out.2.trans (hb.mono H2.out.2.size))))
             clear ho hb)
          | (go_at_call 13
             with_reducible refine(HC.out.2.2.1 _ H1.out).mono ?_
             rintro e w2 ⟨v,rfl,ho,hb⟩
             obtain⟨A2,n2,c2,rfl⟩:=own_form' ho
             have hn2:=own_len ho
             subst hn2
             have H2:=Lib.hid (And.intro (Rd.of_own ho) (H1.out.trans (hb.mono H1.out.size)))
             clear ho hb)
          | (go_at_call 21
             with_reducible refine(HC.out.2.2.2.2.1 _ _ _ H3.out.1).mono ?_
             rintro e w4 ⟨rfl,rfl⟩)
          | (go_at_call 21
             with_reducible refine(HC.out.2.2.2.2.2 _ _ _ H3.out.2.1).mono ?_
             rintro e w4 ⟨rfl,rfl⟩)
          | fail)
        go_ret
        exact⟨rfl,H3.out.2.2⟩)
    | true=>
      rw[Bool.and_eq_true,decide_eq_true_eq,decide_eq_true_eq] at hcl
      obtain⟨j1,j2⟩:=hjoin hcl.1 hcl.2
      rw[decide_eq_true hcl.1] at cX
      rw[decide_eq_true hcl.2] at cY
      rw[decide_eq_true j1] at cZ
      obtain⟨px,hpx⟩:∃px,px=nOf 4 X:=⟨_,rfl⟩
      obtain⟨py,hpy⟩:∃py,py=nOf 4 Y:=⟨_,rfl⟩
      obtain⟨pz,hpz⟩:∃pz,pz=nOf 4 Z:=⟨_,rfl⟩
      have px9:px≤X.length:=by rw[hpx];have:=nOf_le 4 X X.length;rwa [List.take_length] at this
      have py9:py≤Y.length:=by rw[hpy];have:=nOf_le 4 Y Y.length;rwa [List.take_length] at this
      rw[←hpx] at pX j2
      rw[←hpy] at pY j2
      rw[←hpz] at pZ j2
      have v1:IntKind.i64.wrap ((px:Int)+(py:Int))=(px:Int)+(py:Int):=IntWalk.i64_in _ (by omega)
      have tz:((pz:Int)==(px:Int)+(py:Int))=true:=by rw[j2];simp
      obtain⟨i0,hi0,hz0,hz1,hz2⟩:=info_parts Tryz.infoLeaf
      have hGe:lfcs (F++nlLf::M)=(lfcs F++lfcs [nlLf])++lfcs M:=by rw[show F++nlLf::M=(F++[nlLf])++M by simp,lfcs_app3,lfcs_app3]
      rw[hlG,hGe] at hPG
      have HC:=Lib.hid (And.intro s1 (And.intro s2 (And.intro hP (And.intro hP' (And.intro cX (And.intro cY hPG))))))
      have HD:=Lib.hid (And.intro cZ (And.intro pZ (And.intro pX (And.intro pY (And.intro hrd hrd')))))
      clear s1 s2 hP hP' hPG cX cY cZ pX pY pZ hjoin hcl hrd hrd' hsh hF hM hG lF lM lG hlG hGe ht ht' hpx hpy hpz j1 j2
      go_enter Tryz.func8,Tryz.ntmps8
      go_wp2_with (first
        | (go_at_call 10
           refine(awake13_c _).mono ?_
           rintro e w1 ⟨rfl,hb⟩
           have H1:=Lib.hid hb
           clear hb)
        | (go_at_call 11
           with_reducible refine(HC.out.1 _ H1.out).mono ?_
           rintro e w2 ⟨rfl,rfl⟩)
        | (go_at_call 11
           with_reducible refine(HC.out.2.1 _ H1.out).mono ?_
           rintro e w2 ⟨rfl,rfl⟩)
        | (go_at_call 13
           with_reducible refine(HC.out.2.2.2.2.2.2 _ _ (Rd.of_own H6.out.1)).mono ?_
           rintro e w7 ⟨v,rfl,ho,hb⟩
           obtain⟨A7,n7,c7,rfl⟩:=own_form' ho
           have hn7:=own_len ho
           subst hn7
           have H7:=Lib.hid (And.intro (Rd.of_own ho) (And.intro (H6.out.2.1.next hb) (And.intro (H6.out.2.2.1.next hb) (H6.out.2.2.2.trans (hb.mono H6.out.2.2.2.size)))))
           clear ho hb)
        | (go_at_call 13
           with_reducible refine(HC.out.2.2.2.1 _ H2.out.2).mono ?_
           rintro e w3 ⟨v,rfl,ho,hb⟩
           obtain⟨A3,n3,c3,rfl⟩:=own_form' ho
           have hn3:=own_len ho
           subst hn3
           have H3:=Lib.hid (And.intro (H2.out.1.next hb) (And.intro (Rd.of_own ho) (H2.out.2.trans (hb.mono H2.out.2.size))))
           clear ho hb)
        | (go_at_call 13
           with_reducible refine(HC.out.2.2.1 _ H1.out).mono ?_
           rintro e w2 ⟨v,rfl,ho,hb⟩
           obtain⟨A2,n2,c2,rfl⟩:=own_form' ho
           have hn2:=own_len ho
           subst hn2
           have H2:=Lib.hid (And.intro (Rd.of_own ho) (H1.out.trans (hb.mono H1.out.size)))
           clear ho hb)
        | (go_at_call 21
           with_reducible refine(HD.out.1 _ _ _ H7.out.1).mono ?_
           rintro e w8 ⟨rfl,rfl⟩)
        | (go_at_call 21
           with_reducible refine(HC.out.2.2.2.2.1 _ _ _ H3.out.1).mono ?_
           rintro e w4 ⟨rfl,rfl⟩)
        | (go_at_call 21
           with_reducible refine(HC.out.2.2.2.2.2.1 _ _ _ H3.out.2.1).mono ?_
           rintro e w4 ⟨rfl,rfl⟩)
        | (go_at_call 22
           with_reducible refine(HD.out.2.1 _ _ _ H7.out.1).mono ?_
           rintro e w8 ⟨rfl,rfl⟩)
        | (go_at_call 22
           with_reducible refine(HD.out.2.2.1 _ _ _ H7.out.2.1).mono ?_
           rintro e w8 ⟨rfl,rfl⟩)
        | (go_at_call 22
           with_reducible refine(HD.out.2.2.2.1 _ _ _ H7.out.2.2.1).mono ?_
           rintro e w8 ⟨rfl,rfl⟩)
        | (at_builtin
           refine wpList_append_rd rfl (.tmp 37) (.tmp 38) 22 rfl w4.heap.size 37 i0 _ 4 40 Tryz.underlying22 hi0 hz0 hz1 hz2 rfl (by decide) (.slice (some ⟨ga,0,none⟩) (F.length+1) ca) (F.length+1) (lfcs F++lfcs [nlLf]) rfl HB6.out.1 (.slice A' M.length c') M.length w.heap.size (lfcs M) rfl (HD.out.2.2.2.2.2.keep (H3.out.2.2.trans (HB6.out.2.mono H3.out.2.2.size)) (Nat.le_refl _)) (one_lfcs M) (by unfold maxLen;omega) (by omega) HB6.out.2.size ?_
           intro v8 w8 hown8 hg8 hv8
           have hb8:Below w4.heap.size w4 w8:=Below.grown HB6.out.2 hg8 HB6.out.2.size (fun kk hk=>(HB6.out.1.lt kk hk).1)
           obtain⟨A8,n8,c8,rfl⟩:=own_form' hown8
           have hn8:=own_len hown8
           subst hn8
           have H6:=Lib.hid (And.intro hown8 (And.intro (H3.out.1.next hb8) (And.intro (H3.out.2.1.next hb8) (H3.out.2.2.trans (hb8.mono H3.out.2.2.size)))))
           clear hown8 hg8 hv8 hb8)
        | (at_builtin
           refine wpList_append_rd rfl (.tmp 33) (.tmp 35) 22 rfl w4.heap.size 37 i0 _ 4 40 Tryz.underlying22 hi0 hz0 hz1 hz2 rfl (by decide) (.slice A5 F.length c5) F.length (lfcs F) rfl (HB5.out.1.alloc _) (.slice (some ⟨w5.heap.size,0,none⟩) 1 1) 1 (w5.heap.size+1) (lfcs [nlLf]) rfl (rd_new w5 (lfcs [nlLf]) 37 4 1 rfl (by omega)) (one_lfcs _) (by unfold maxLen;omega) (by omega) (by have:=HB5.out.2.size;simp;omega) ?_
           intro v6 w6 hown6 hg6 hv6
           have hb6:Below w4.heap.size w4 w6:=Below.grown (HB5.out.2.alloc HB5.out.2.size _) hg6 (by have:=HB5.out.2.size;simp;omega) (fun kk hk=>(HB5.out.1.lt kk hk).1)
           obtain⟨ga,ca,rfl⟩:=own_some hown6
           have HB6:=Lib.hid (And.intro hown6 hb6)
           clear hown6 hg6 hv6 hb6)
        | (at_builtin
           refine wpList_append_rd rfl (.tmp 31) (.tmp 32) 22 rfl w4.heap.size 37 i0 _ 4 40 Tryz.underlying22 hi0 hz0 hz1 hz2 rfl (by decide) (.slice (some ⟨w4.heap.size,0,none⟩) 0 0) 0 [] rfl (World.ownsRow_made _ _ _ (Nat.le_refl _) (by unfold maxLen;omega) (by simp)) (.slice A F.length c) F.length w.heap.size (lfcs F) rfl (HD.out.2.2.2.2.1.keep (H3.out.2.2.alloc H3.out.2.2.size _) (Nat.le_refl _)) (one_lfcs F) (by unfold maxLen;omega) (by omega) (by simp) ?_
           intro v5 w5 hown5 hg5 hv5
           have hb5:Below w4.heap.size w4 w5:=((Below.refl _ _).alloc (Nat.le_refl _) _).grown hg5 (by simp) (by intro k hk;simp[Value.ownBlock] at hk;omega)
           rw[Nat.zero_add,List.nil_append] at hown5
           obtain⟨A5,n5,c5,rfl⟩:=own_form' hown5
           have hn5:=own_len hown5
           subst hn5
           have HB5:=Lib.hid (And.intro hown5 hb5)
           clear hown5 hg5 hv5 hb5)
        | fail)
      go_ret
      exact⟨by simp,H7.out.2.2.2⟩
end Go.Proofs.YtokmnkmpdnlnaaaGreatDoor
