/- PaintWords: the walk. -/
import Derived.Test.YtgdifhhioahakaaGreatDoorAw24
import Derived.Test.YtgdifhhioahakaaGreatDoorPw24
namespace Go.Proofs.YtgdifhhioahakaaGreatDoor
open Go.RowKit
set_option linter.unusedVariables false
set_option linter.unusedSimpArgs false
set_option maxRecDepth 100000
theorem open_u8s {H:Type} {enc:TypeId×Value→H} {P:Program} {w:World} {sp:Nat→Bool} {held:Bool} {t e:TypeId} {A:Option Addr} {len cap:Nat} {d:DataW H} {ps:List MemPlace}
    (ht:P.underlying t=some (.slice e)) (he:P.underlying e=some (.int .u8)) (ce:P.cellsOf e=1) (hd:DataW.Trod enc P w 0 sp held t (.slice A len cap) d ps) :
    ∃xs:List UInt8,xs.length=len∧Rd w w.heap.size 1 (.slice A len cap) len (bvals xs):=by
  obtain⟨rows,h1,h2,h3⟩:=open_rows (Q:=fun cs=>∃b:UInt8,cs=[.int .u8 (b.toNat:Int)]) ht ce (by omega) (fun n cs x hl h=>by
    obtain⟨z,hz,_,hw⟩:=DataW.trod_int he h
    have hw:0≤z∧z≤255:=by simpa [Lit.wf,IntKind.min,IntKind.max,IntKind.signed,IntKind.bits] using hw
    refine⟨UInt8.ofNat z.toNat,?_⟩
    have e1:(UInt8.ofNat z.toNat).toNat=z.toNat:=by rw[UInt8.toNat_ofNat'];omega
    rw[hz,e1,Int.toNat_of_nonneg hw.1]) hd
  have key:∀rows:List (List Value),(∀r∈rows,r.length=1∧∃b:UInt8,r=[.int .u8 (b.toNat:Int)])→∃xs:List UInt8,rows.flatten=bvals xs∧xs.length=rows.length:=by
    intro rows
    induction rows with
    | nil=>exact fun _=>⟨[],rfl,rfl⟩
    | cons r rows ih=>
      intro h
      obtain⟨xs,e,hl⟩:=ih (fun r hr=>h r (by simp[hr]))
      obtain⟨_,b,hb⟩:=h r (by simp)
      exact⟨b::xs,by rw[List.flatten_cons,e,hb];rfl,by simp[hl]⟩
  obtain⟨xs,e,hl⟩:=key rows h2
  rw[e] at h3
  exact⟨xs,by omega,h3⟩
theorem ba_append24 (l m:List UInt8):(ByteArray.mk l.toArray)++(ByteArray.mk m.toArray)=⟨(l++m).toArray⟩:=by
  apply ByteArray.ext
  apply Array.ext'
  simp
def wdK (b:UInt8):Nat:=b.toNat%6+1
def wdS:List Nat→List UInt8
  | []=>[]
  | k::r=>wdB k++tailW r
def wdW:List Nat→List UInt8
  | []=>[]
  | k::r=>List.replicate k 99++r.flatMap fun k=>95::List.replicate k 97
theorem wdS_snoc (ks:List Nat) (k:Nat) (h:ks≠[]):wdS (ks++[k])=wdS ks++[32]++wdB k:=by
  cases ks with
  | nil=>exact absurd rfl h
  | cons a r=>simp[wdS,tailW]
theorem wdW_snoc (ks:List Nat) (k:Nat) (h:ks≠[]):wdW (ks++[k])=wdW ks++[95]++List.replicate k 97:=by
  cases ks with
  | nil=>exact absurd rfl h
  | cons a r=>simp[wdW]
theorem wdS_len:∀ks:List Nat,(∀k∈ks,k≤6)→(wdS ks).length≤7*ks.length
  | [],_=>Nat.le_refl _
  | k::r,h=>by
    have h1:∀r:List Nat,(∀k∈r,k≤6)→(tailW r).length≤7*r.length:=by
      intro r
      induction r with
      | nil=>exact fun _=>Nat.le_refl _
      | cons a r ih=>
        intro h
        have:=ih (fun k hk=>h k (List.mem_cons_of_mem _ hk))
        have h9:=h a List.mem_cons_self
        have h2:=wd_len h9
        show (32::(wdB a++tailW r)).length≤_
        simp only[List.length_cons,List.length_append]
        omega
    have h2:=h1 r (fun k hk=>h k (List.mem_cons_of_mem _ hk))
    have h9:=h k List.mem_cons_self
    have h3:=wd_len h9
    show (wdB k++tailW r).length≤_
    simp only[List.length_cons,List.length_append]
    omega
theorem wdW_len:∀ks:List Nat,(∀k∈ks,k≤6)→(wdW ks).length≤7*ks.length
  | [],_=>Nat.le_refl _
  | k::r,h=>by
    have h1:∀r:List Nat,(∀k∈r,k≤6)→(r.flatMap fun k=>(95:UInt8)::List.replicate k 97).length≤7*r.length:=by
      intro r
      induction r with
      | nil=>exact fun _=>Nat.le_refl _
      | cons a r ih=>
        intro h
        have:=ih (fun k hk=>h k (List.mem_cons_of_mem _ hk))
        have h9:=h a List.mem_cons_self
        rw[List.flatMap_cons]
        simp only[List.length_cons,List.length_append,List.length_replicate]
        omega
    have h2:=h1 r (fun k hk=>h k (List.mem_cons_of_mem _ hk))
    have h9:=h k List.mem_cons_self
    show (List.replicate k 99++_).length≤_
    simp only[List.length_cons,List.length_append,List.length_replicate]
    omega
theorem wdK_rng (b:UInt8):1≤wdK b∧wdK b≤6:=by unfold wdK;omega
theorem words_all (bs:List UInt8) (h:bs≠[]) (hn:bs.length≤8):(clsT (wdS (bs.map wdK))).map letC=wdW (bs.map wdK):=by
  cases bs with
  | nil=>exact absurd rfl h
  | cons b r=>
    simp only[List.length_cons] at hn
    exact words_law (wdK b) (r.map wdK) (wdK_rng b).1 (wdK_rng b).2 (fun k hk=>by obtain⟨c,_,rfl⟩:=List.mem_map.1 hk;exact wdK_rng c) (by rw[List.length_map];omega)
set_option maxHeartbeats 4000000 in
theorem paintWords_w (xs:List UInt8) (A:Option Addr) (n c:Nat) (w:World) (hrd:Rd w w.heap.size 1 (.slice A n c) n (bvals xs)) (hn:n=xs.length) (hm1:n≤9223372036854775807) :
    Calls Tryz.prog 3 #[.slice A n c] w fun e w'=>e=.returned (.bool true)∧Below w.heap.size w w':=by
  subst hn
  have H0:=Lib.hid hrd
  clear hrd
  by_cases h0:xs.length=0
  ·have k0:((xs.length:Int)==0)=true:=by simp[h0]
   go_enter Tryz.func3,Tryz.ntmps3
   go_wp2_with (
     (go_at_call 9
      refine(awake24_c _).mono ?_
      rintro e w1 ⟨rfl,hb1⟩
      have H1:=Lib.hid hb1
      clear hb1))
   go_ret
   exact⟨rfl,H1.out⟩
  have k0:((xs.length:Int)==0)=false:=beq_false_of_ne (by omega)
  by_cases h8:8<xs.length
  ·have k1:decide ((8:Int)<(xs.length:Int))=true:=by simp;omega
   go_enter Tryz.func3,Tryz.ntmps3
   go_wp2_with (
     (go_at_call 9
      refine(awake24_c _).mono ?_
      rintro e w1 ⟨rfl,hb1⟩
      have H1:=Lib.hid hb1
      clear hb1))
   go_ret
   exact⟨rfl,H1.out⟩
  have k1:decide ((8:Int)<(xs.length:Int))=false:=by simp;omega
  have hl8:xs.length≤8:=by omega
  clear h0 h8
  have HX:=Lib.hid k0
  go_enter Tryz.func3,Tryz.ntmps3
  go_wp2_with (
    (go_at_call 9
     refine(awake24_c _).mono ?_
     rintro e w1 ⟨rfl,hb1⟩
     have H1:=Lib.hid hb1
     clear hb1))
  go_loopw [5,3,4,6] (fun i s v z wr=>∃k:Nat,k≤xs.length∧i=.int .i64 k∧s=.string ⟨(wdS ((xs.take k).map wdK)).toArray⟩∧v=.string ⟨(wdW ((xs.take k).map wdK)).toArray⟩∧wr=w1) (fun i _ _ _ _=>xs.length-(intOf i).toNat)
  case atStart=>exact⟨0,by omega,rfl,rfl,rfl,rfl⟩
  case round=>
    obtain⟨k,hk,rfl,rfl,rfl,rfl⟩:=hrel
    by_cases hlt:k<xs.length
    ·have u1:(k:Int)<(xs.length:Int):=by omega
     have u2:(0:Int)≤(k:Int):=by omega
     obtain⟨d,hd⟩:∃d,xs[k]? = some d:=⟨_,List.getElem?_eq_getElem hlt⟩
     obtain⟨_,A',c',h2,_,_,_,h6⟩:=H0.out.keep H1.out (Nat.le_refl _)
     cases h2
     obtain⟨g,o,rfl,_,hc⟩:=h6 (by omega)
     obtain⟨Z,hZ⟩:∃Z:Int,Z=(d.toNat:Int):=⟨_,rfl⟩
     have y0:wr.cell? ⟨g,o+k,none⟩=some (.int .u8 Z):=by rw[hZ];exact hc k _ (by rw[bvals,List.getElem?_map,hd];rfl)
     have hdl:=d.toNat_lt
     obtain⟨R,hR⟩:∃R:Int,R=Z.tmod 6:=⟨_,rfl⟩
     obtain⟨K,hK⟩:∃K:Nat,K=wdK d:=⟨_,rfl⟩
     have hRK:R+1=(K:Int):=by
       rw[hR,hK,hZ]
       unfold wdK
       rw[show ((d.toNat:Int)).tmod 6=((d.toNat%6:Nat):Int) from rfl]
       omega
     have hK6:1≤K∧K≤6:=by rw[hK];exact wdK_rng d
     have w1':IntKind.i64.wrap Z=Z:=IntWalk.i64_in _ (by omega)
     have w2':IntKind.i64.wrap (Z.tmod 6)=Z.tmod 6:=IntWalk.i64_in _ (by omega)
     have w3':IntKind.i64.wrap (Z.tmod 6+1)=(K:Int):=by rw[←hR,hRK];exact IntWalk.i64_in _ (by omega)
     have j1:(0:Int)≤(K:Int):=by omega
     have j2:(K:Int)≤6:=by omega
     have htk:xs.take (k+1)=xs.take k++[d]:=by rw[List.take_succ_eq_append_getElem hlt];congr 2;exact(List.getElem?_eq_some_iff.1 hd).2
     have htm:(xs.take (k+1)).map wdK=(xs.take k).map wdK++[K]:=by rw[htk,List.map_append,hK];rfl
     have e1:(ByteArray.mk #[120,121,122,120,121,122]).extract 0 K=⟨(wdB K).toArray⟩:=by
       show (ByteArray.mk ([120,121,122,120,121,122]:List UInt8).toArray).extract 0 K=_
       rw[ba_extract]
       rfl
     have e2:(ByteArray.mk #[99,99,99,99,99,99]).extract 0 K=⟨(List.replicate K 99).toArray⟩:=by
       show (ByteArray.mk (List.replicate 6 (99:UInt8)).toArray).extract 0 K=_
       rw[ba_extract,List.take_replicate,Nat.min_eq_left (by omega)]
       rfl
     have e3:(ByteArray.mk #[97,97,97,97,97,97]).extract 0 K=⟨(List.replicate K 97).toArray⟩:=by
       show (ByteArray.mk (List.replicate 6 (97:UInt8)).toArray).extract 0 K=_
       rw[ba_extract,List.take_replicate,Nat.min_eq_left (by omega)]
       rfl
     have hks:∀z∈(xs.take k).map wdK,z≤6:=fun z hz=>by obtain⟨b,_,rfl⟩:=List.mem_map.1 hz;exact(wdK_rng b).2
     have hlS:=wdS_len _ hks
     have hlW:=wdW_len _ hks
     rw[List.length_map,List.length_take] at hlS hlW
     have hne:k≠0→(xs.take k).map wdK≠[]:=fun h e=>by
       have h1:=congrArg List.length e
       rw[List.length_map,List.length_take,List.length_nil] at h1
       omega
     have hze:k=0→(xs.take k).map wdK=[]:=fun h=>by rw[h];rfl
     generalize hM:(xs.take k).map wdK=M at *
     have hw:=wd_len hK6.2
     have hlB:(wdB K).length≤6:=by omega
     have hl9:(List.replicate K (99:UInt8)).length≤6:=by rw[List.length_replicate];omega
     have hl7:(List.replicate K (97:UInt8)).length≤6:=by rw[List.length_replicate];omega
     obtain⟨S,hS⟩:∃S,S=wdS M:=⟨_,rfl⟩
     obtain⟨T,hT⟩:∃T,T=wdW M:=⟨_,rfl⟩
     obtain⟨B,hB⟩:∃B,B=wdB K:=⟨_,rfl⟩
     obtain⟨C9,hC9⟩:∃C9,C9=List.replicate K (99:UInt8):=⟨_,rfl⟩
     obtain⟨C7,hC7⟩:∃C7,C7=List.replicate K (97:UInt8):=⟨_,rfl⟩
     rw[←hS] at hlS ⊢
     rw[←hT] at hlW ⊢
     rw[←hB] at hlB e1
     rw[←hC9] at hl9 e2
     rw[←hC7] at hl7 e3
     have s1:S.length≤56:=by omega
     have s2:T.length≤56:=by omega
     have HQ:=Lib.hid (And.intro htm (And.intro hK6 (And.intro hne (And.intro hze (And.intro hS (And.intro hT (And.intro hB (And.intro hC9 hC7))))))))
     clear htk htm hK hRK hR hZ hdl hc hd hK6 hne hze hS hT hB hC9 hC7 hks hlS hlW hw hM
     by_cases hk0:k=0
     ·have t0:decide (0<k)=false:=by simp;omega
      have HK0:=Lib.hid hk0
      subst hk0
      rw[Nat.add_zero] at y0
      go_wp2_with fail
      have hM0:=HQ.out.2.2.2.1 rfl
      have f1:wdS (M++[K])=S++B:=by rw[HQ.out.2.2.2.2.1,HQ.out.2.2.2.2.2.2.1,hM0];simp[wdS,tailW]
      have f2:wdW (M++[K])=T++C9:=by rw[HQ.out.2.2.2.2.2.1,HQ.out.2.2.2.2.2.2.2.1,hM0];simp[wdW]
      exact⟨⟨1,by omega,by go_num,by rw[HQ.out.1,f1,ba_append24],by rw[HQ.out.1,f2,ba_append24],by first|rfl|trivial⟩,by simp[intOf];omega⟩
     ·have t0:decide (0<k)=true:=by simp;omega
      have hk1:0<k:=by omega
      have t1:((k:Int)==0)=false:=beq_false_of_ne (by omega)
      have HK0:=Lib.hid hk0
      go_wp2_with fail
      have hM0:=HQ.out.2.2.1 HK0.out
      have f1:wdS (M++[K])=S++[32]++B:=by rw[HQ.out.2.2.2.2.1,HQ.out.2.2.2.2.2.2.1,wdS_snoc _ _ hM0]
      have f2:wdW (M++[K])=T++[95]++C7:=by rw[HQ.out.2.2.2.2.2.1,HQ.out.2.2.2.2.2.2.2.2,wdW_snoc _ _ hM0]
      exact⟨⟨k+1,by omega,by go_num,by rw[HQ.out.1,f1,←ba_append24,←ba_append24],by rw[HQ.out.1,f2,←ba_append24,←ba_append24],by first|rfl|trivial⟩,by simp[intOf];omega⟩
    ·obtain rfl:k=xs.length:=by omega
     rw[List.take_of_length_le (Nat.le_refl _)]
     have hks:∀z∈xs.map wdK,z≤6:=fun z hz=>by obtain⟨b,_,rfl⟩:=List.mem_map.1 hz;exact(wdK_rng b).2
     have hlS:=wdS_len _ hks
     rw[List.length_map] at hlS
     have hall:=words_all xs (fun e=>by rw[e] at k0;exact absurd k0 (by decide)) hl8
     obtain⟨S,hS⟩:∃S,S=wdS (xs.map wdK):=⟨_,rfl⟩
     obtain⟨T,hT⟩:∃T,T=wdW (xs.map wdK):=⟨_,rfl⟩
     rw[←hS] at hall hlS ⊢
     rw[←hT] at hall ⊢
     have hcl:∀W:World,Calls Tryz.prog 10 #[.string ⟨S.toArray⟩] W fun e w'=>e=.returned (.string ⟨T.toArray⟩)∧Below W.heap.size W w':=fun W=>by
       have:=letters_m S W (by omega)
       rwa [hall] at this
     have HC:=Lib.hid hcl
     clear hcl hall hlS hks hS hT
     go_wp2_with (
       (go_at_call 10
        refine(HC.out _).mono ?_
        rintro e w2 ⟨rfl,hb2⟩
        have H2:=Lib.hid hb2
        clear hb2))
     go_ret
     exact⟨rfl,H1.out.trans (H2.out.mono H1.out.size)⟩
end Go.Proofs.YtgdifhhioahakaaGreatDoor
