/- Arguments that are structs: of one-cell fields, and lexings. Rows of structs, read cell by cell. -/
import Derived.Test.YtgdifhhioahakaaGreatDoorMem
namespace Go.Proofs.YtgdifhhioahakaaGreatDoor
open Go.RowKit Go.ChangeShapes Go.WideShapes Go.Deep
set_option linter.unusedVariables false
set_option linter.unusedSimpArgs false
set_option maxRecDepth 100000
theorem flatMap_get {α:Type} {lay:α→List Value} {sz:Nat} (hl:∀x,(lay x).length=sz):∀(L:List α) (k:Nat) (x:α) (j:Nat) (u:Value),L[k]? = some x→(lay x)[j]? = some u→(L.flatMap lay)[k*sz+j]? = some u
  | [],k,x,j,u,h,_=>by simp at h
  | a::r,0,x,j,u,h,hu=>by
    simp at h
    subst h
    rw[List.flatMap_cons,List.getElem?_append_left (by have:=(List.getElem?_eq_some_iff.1 hu).1;omega)]
    simpa using hu
  | a::r,k+1,x,j,u,h,hu=>by
    rw[List.flatMap_cons,List.getElem?_append_right (by rw[hl,Nat.add_mul];omega),hl,show (k+1)*sz+j-sz=k*sz+j by rw[Nat.add_mul];omega]
    exact flatMap_get hl r k x j u (by simpa using h) hu
theorem rd_sat {α:Type} {lay:α→List Value} {sz:Nat} (hl:∀x,(lay x).length=sz) {w:World} {B n c:Nat} {A:Option Addr} {L:List α} (h:Rd w B sz (.slice A n c) n (L.flatMap lay)) {k:Nat} {x:α} (hk:L[k]? = some x) (hn:n=L.length) :
    ∃g o,A=some ⟨g,o,none⟩∧g<B∧∀j u,(lay x)[j]? = some u→w.cell? ⟨g,o+k*sz+j,none⟩=some u:=by
  obtain⟨h1,A',c',h2,h3,h4,h5,h6⟩:=h
  cases h2
  have hkl:=(List.getElem?_eq_some_iff.1 hk).1
  obtain⟨g,o,ha,hg,hc⟩:=h6 (by omega)
  refine⟨g,o,ha,hg,fun j u hu=>?_⟩
  have:=hc (k*sz+j) _ (flatMap_get hl L k x j u hk hu)
  simpa [Nat.add_assoc] using this
theorem open_struct {H:Type} {enc:TypeId×Value→H} {P:Program} {w W:World} {r:Reach} {base:Nat} {sp:Nat→Bool} {held:Bool} {e:TypeId} {fs:Array Field} (ks:List FK) {v:Value} {d:DataW H} {ps:List MemPlace}
    (he:P.underlying e=some (.struct fs)) (hfs:fieldsB P fs ks=true) (ce:P.cellsOf e=ks.length) (hok:Value.okWide P W r base e v) (hd:DataW.Trod enc P w 0 sp held e v d ps) :
    ∃cs:List Value,v=.agg cs.toArray∧cs.length=ks.length∧Qk ks cs:=by
  obtain⟨cs,rfl,hc⟩:=okWide_struct he hok
  obtain⟨fuel,hf⟩:=hd
  refine⟨cs.toList,by simp,by rw[Array.length_toList,hc,ce],?_⟩
  exact qk_struct he hfs (by rw[Array.length_toList,hc,ce]) hf
theorem open_isb {H:Type} {enc:TypeId×Value→H} {P:Program} {w W:World} {r:Reach} {base:Nat} {sp:Nat→Bool} {held:Bool} {t e:TypeId} {f0 f1 f2:Field} {gs:Array Field} (ks:List FK) {v:Value} {d:DataW H} {ps:List MemPlace}
    (ht:P.underlying t=some (.struct #[f0,f1,f2])) (ho:f0.offset=0∧f1.offset=1∧f2.offset=2) (hc:P.cellsOf f0.type=1∧P.cellsOf f1.type=1∧P.cellsOf f2.type=1) (ce3:P.cellsOf t=3)
    (hi:P.underlying f0.type=some (.int .i64)) (hb:P.underlying f2.type=some .bool) (hs:P.underlying f1.type=some (.slice e))
    (he:P.underlying e=some (.struct gs)) (hgs:fieldsB P gs ks=true) (ce:P.cellsOf e=ks.length) (hsz:0<ks.length)
    (hok:Value.okWide P W r base t v) (hd:DataW.Trod enc P w 0 sp held t v d ps) :
    ∃(aw:Int) (A:Option Addr) (len cap:Nat) (bd:Bool) (rows:List (List Value)),v=.agg #[.int .i64 aw,.slice A len cap,.bool bd]∧rows.length=len∧(∀r∈rows,r.length=ks.length∧Qk ks r)∧Rd w w.heap.size ks.length (.slice A len cap) len rows.flatten:=by
  obtain⟨cs,rfl,hcs⟩:=okWide_struct ht hok
  obtain⟨fuel,hf⟩:=hd
  obtain⟨xs,m,_,_,_,hxl,hfl⟩:=DataW.trod_struct ht hf
  have h3:cs.size=3:=by rw[hcs,ce3]
  obtain⟨c0,c1,c2,rfl⟩:∃c0 c1 c2,cs=#[c0,c1,c2]:=by
    obtain⟨l⟩:=cs
    match l,h3 with
    | [c0,c1,c2],_=>exact⟨c0,c1,c2,rfl⟩
  have hx3:xs.length=3:=by rw[hxl];rfl
  have g0:=hfl 0 f0 rfl
  have g1:=hfl 1 f1 rfl
  have g2:=hfl 2 f2 rfl
  rw[ho.1,hc.1,List.getElem?_eq_getElem (by omega)] at g0
  rw[ho.2.1,hc.2.1,List.getElem?_eq_getElem (by omega)] at g1
  rw[ho.2.2,hc.2.2,List.getElem?_eq_getElem (by omega)] at g2
  have g0':DataW.trod enc P w 0 sp held m f0.type [c0]=some _:=g0
  have g1':DataW.trod enc P w 0 sp held m f1.type [c1]=some _:=g1
  have g2':DataW.trod enc P w 0 sp held m f2.type [c2]=some _:=g2
  obtain⟨z,hz,_,_⟩:=DataW.trod_int hi g0'
  obtain⟨b,hb',_⟩:=DataW.trod_bool hb g2'
  simp only[List.cons.injEq,and_true] at hz hb'
  subst hz hb'
  obtain⟨A,len,cap,rfl⟩:∃A len cap,c1=.slice A len cap:=by
    rcases open_slice hs g1' with ⟨h0,_⟩|⟨a,len',cap',_,_,_,_,h0,_⟩
    ·simp only[List.cons.injEq,and_true] at h0
     exact⟨_,_,_,h0⟩
    ·simp only[List.cons.injEq,and_true] at h0
     exact⟨_,_,_,h0⟩
  obtain⟨rows,r1,r2,r3⟩:=open_structs ks hs he hgs ce hsz (d:=_) (ps:=_) ⟨m,g1'⟩
  exact⟨z,A,len,cap,b,rows,rfl,r1,r2,r3⟩
end Go.Proofs.YtgdifhhioahakaaGreatDoor
