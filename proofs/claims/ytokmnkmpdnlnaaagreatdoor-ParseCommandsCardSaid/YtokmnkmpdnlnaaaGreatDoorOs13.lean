/- Slices of structs as arguments of a law (what the base of chapter 13 leaves out of XMem). -/
import Derived.Test.YtokmnkmpdnlnaaaGreatDoorMem
namespace Go.Proofs.YtokmnkmpdnlnaaaGreatDoor
open Go.RowKit Go.ChangeShapes Go.WideShapes Go.Deep
set_option linter.unusedVariables false
set_option linter.unusedSimpArgs false
set_option maxRecDepth 100000
theorem ba_of (s:ByteArray):∃l:List UInt8,s=⟨l.toArray⟩:=⟨s.data.toList,by cases s;simp⟩
theorem flat_get {α:Type} {sz:Nat}:∀(rows:List (List α)),(∀r∈rows,r.length=sz)→∀(j:Nat) (u:α),rows.flatten[j]? = some u→∃i k r,j=i*sz+k∧k<sz∧rows[i]? = some r∧r[k]? = some u
  | [],_,j,u,h=>by simp at h
  | r::rows,hr,j,u,h=>by
    have h0:=hr r (by simp)
    by_cases hj:j<sz
    ·rw[List.flatten_cons,List.getElem?_append_left (by omega)] at h
     exact⟨0,j,r,by omega,hj,rfl,h⟩
    ·rw[List.flatten_cons,List.getElem?_append_right (by omega),h0] at h
     obtain⟨i,k,r',e,hk,hi,hu⟩:=flat_get rows (fun r hr'=>hr r (by simp[hr'])) _ u h
     exact⟨i+1,k,r',by rw[Nat.add_mul];omega,hk,by simpa using hi,hu⟩
theorem open_rows {H:Type} {enc:TypeId×Value→H} {P:Program} {w:World} {sp:Nat→Bool} {held:Bool} {t e:TypeId} {sz:Nat} {Q:List Value→Prop} {A:Option Addr} {len cap:Nat} {d:DataW H} {ps:List MemPlace}
    (ht:P.underlying t=some (.slice e)) (ce:P.cellsOf e=sz) (hsz:0<sz)
    (hQ:∀(n:Nat) (cs:List Value) (x:DataW H×List MemPlace),cs.length=sz→DataW.trod enc P w 0 sp held n e cs=some x→Q cs)
    (hd:DataW.Trod enc P w 0 sp held t (.slice A len cap) d ps) :
    ∃rows:List (List Value),rows.length=len∧(∀r∈rows,r.length=sz∧Q r)∧Rd w w.heap.size sz (.slice A len cap) len rows.flatten:=by
  obtain⟨fuel,hf⟩:=hd
  have hv:(Value.slice A len cap).cells.toList=[.slice A len cap]:=rfl
  rw[hv] at hf
  rcases open_slice ht hf with ⟨h0,_⟩|⟨a,len',cap',m,n,D,Pl,h0,_,hl,hm,hmm,_,hx⟩
  ·simp only[List.cons.injEq,and_true,Value.slice.injEq] at h0
   obtain⟨rfl,rfl,rfl⟩:=h0
   exact⟨[],rfl,by simp,Rd.nil _ _ _⟩
  ·simp only[List.cons.injEq,and_true,Value.slice.injEq] at h0
   obtain⟨rfl,rfl,rfl⟩:=h0
   have hlm:len≤m:=by rw[hmm];split<;>omega
   have each:∀i,i<len→∃r:List Value,r.length=sz∧Q r∧∀k,k<sz→w.cell? ((a.add (i*sz)).add k)=r[k]? := by
     intro i hi
     obtain⟨cs',h1,h2⟩:=hx i (by omega)
     rw[ce] at h1
     obtain⟨_,h3,h4⟩:=World.cells?_some h1
     exact⟨cs',h3,hQ _ _ _ h3 h2,h4⟩
   obtain⟨q,hq⟩:=choose_lt each
   have hrow:∀r∈(List.range len).map q,r.length=sz∧Q r:=by
     intro r hr
     obtain⟨i,hi,rfl⟩:=List.mem_map.1 hr
     have:=hq i (List.mem_range.1 hi)
     exact⟨this.1,this.2.1⟩
   refine⟨(List.range len).map q,by simp,hrow,?_,some a,cap,rfl,hl,hm,by simp,fun h0=>?_⟩
   ·rw[List.length_flatten,List.map_map]
    have:∀(l:List Nat),(∀i∈l,i<len)→((l.map (List.length∘q)).sum=l.length*sz):=by
      intro l
      induction l with
      | nil=>intro _;simp
      | cons i l ih=>
        intro h
        rw[List.map_cons,List.sum_cons,ih (fun j hj=>h j (by simp[hj]))]
        show (q i).length+_=_
        rw[(hq i (h i (by simp))).1,List.length_cons,Nat.add_mul]
        omega
    rw[this _ (fun i hi=>List.mem_range.1 hi)]
    simp
   ·obtain⟨g,o,sp0⟩:=a
    obtain⟨u,hu⟩:∃u,(q 0)[0]? = some u:=⟨_,List.getElem?_eq_getElem (by rw[(hq 0 h0).1];exact hsz)⟩
    have hc:=(hq 0 h0).2.2 0 hsz
    rw[hu] at hc
    have hs:sp0=none:=by simpa [Addr.add] using World.cell?_spot hc
    subst hs
    refine⟨g,o,rfl,by simpa [Addr.add] using block_of_cell hc,fun j u hj=>?_⟩
    obtain⟨i,k,r,rfl,hk,hi,hu⟩:=flat_get _ (fun r hr=>(hrow r hr).1) j u hj
    rw[List.getElem?_map] at hi
    cases hr:(List.range len)[i]? with
    | none=>simp[hr] at hi
    | some i'=>
      obtain⟨hlt,hi'⟩:=List.getElem?_eq_some_iff.1 hr
      simp at hi'
      subst hi'
      rw[hr] at hi
      simp at hi
      subst hi
      have hlt':i<len:=by simpa using hlt
      have:=(hq i hlt').2.2 k hk
      rw[hu,Addr.add_lit,Addr.add_lit] at this
      rw[←Nat.add_assoc]
      exact this
def fieldsB (P:Program) (fs:Array Field) (ks:List FK):Bool:=
  fs.size==ks.length&&(List.range ks.length).all fun j=>match fs[j]?,ks[j]? with
    | some f,some k=>f.offset==j&&P.cellsOf f.type==1&&(match P.underlying f.type with|some u=>k.is u|none=>false)
    | _,_=>false
theorem fk_trod {H:Type} {enc:TypeId×Value→H} {P:Program} {w:World} {sp:Nat→Bool} {held:Bool} {n:Nat} {t:TypeId} {u:TypeDesc} {k:FK} {v:Value} {x:DataW H×List MemPlace}
    (ht:P.underlying t=some u) (hk:k.is u=true) (h:DataW.trod enc P w 0 sp held n t [v]=some x):k.ok v:=by
  cases k
  ·cases u<;>try (simp[FK.is] at hk)
   rename_i kd
   cases kd<;>try (simp[FK.is] at hk)
   obtain⟨z,hz,_,hw⟩:=DataW.trod_int ht h
   simp only[List.cons.injEq,and_true] at hz
   exact⟨z,hz,by simpa [Lit.wf,IntKind.min,IntKind.max,IntKind.signed,IntKind.bits] using hw⟩
  ·cases u<;>try (simp[FK.is] at hk)
   obtain⟨z,hz,_⟩:=DataW.trod_bool ht h
   simp only[List.cons.injEq,and_true] at hz
   exact⟨z,hz⟩
  ·cases u<;>try (simp[FK.is] at hk)
   obtain⟨z,hz,_,hw⟩:=DataW.trod_string ht h
   simp only[List.cons.injEq,and_true] at hz
   obtain⟨l,rfl⟩:=ba_of z
   exact⟨l,hz,by unfold maxLen at hw;exact hw⟩
theorem qk_struct {H:Type} {enc:TypeId×Value→H} {P:Program} {w:World} {sp:Nat→Bool} {held:Bool} {n:Nat} {e:TypeId} {fs:Array Field} {ks:List FK} {cs:List Value} {x:DataW H×List MemPlace}
    (he:P.underlying e=some (.struct fs)) (hfs:fieldsB P fs ks=true) (hl:cs.length=ks.length) (h:DataW.trod enc P w 0 sp held n e cs=some x):Qk ks cs:=by
  obtain⟨xs,m,_,_,_,hxl,hf⟩:=DataW.trod_struct he h
  intro j k hj
  unfold fieldsB at hfs
  simp only[Bool.and_eq_true,List.all_eq_true,beq_iff_eq,List.mem_range] at hfs
  have hjl:=(List.getElem?_eq_some_iff.1 hj).1
  have h2:=hfs.2 j hjl
  rw[hj] at h2
  cases hfj:fs[j]? with
  | none=>simp[hfj] at h2
  | some f=>
    rw[hfj] at h2
    simp only[Bool.and_eq_true,beq_iff_eq] at h2
    obtain⟨⟨ho,hc⟩,hu⟩:=h2
    cases hut:P.underlying f.type with
    | none=>simp[hut] at hu
    | some u=>
      rw[hut] at hu
      have:=hf j f hfj
      rw[ho,hc] at this
      obtain⟨v,hv⟩:∃v,cs[j]? = some v:=⟨_,List.getElem?_eq_getElem (by omega)⟩
      have e1:(cs.drop j).take 1=[v]:=by
        apply List.ext_getElem?
        intro i
        rw[List.getElem?_take]
        cases i with
        | zero=>simpa using hv
        | succ i=>simp
      rw[e1] at this
      have hx:j<xs.length:=by rw[hxl,hfs.1];exact hjl
      rw[List.getElem?_eq_getElem hx] at this
      exact⟨v,hv,fk_trod hut hu this⟩
theorem open_structs {H:Type} {enc:TypeId×Value→H} {P:Program} {w:World} {sp:Nat→Bool} {held:Bool} {t e:TypeId} {fs:Array Field} (ks:List FK) {A:Option Addr} {len cap:Nat} {d:DataW H} {ps:List MemPlace}
    (ht:P.underlying t=some (.slice e)) (he:P.underlying e=some (.struct fs)) (hfs:fieldsB P fs ks=true) (ce:P.cellsOf e=ks.length) (hsz:0<ks.length)
    (hd:DataW.Trod enc P w 0 sp held t (.slice A len cap) d ps) :
    ∃rows:List (List Value),rows.length=len∧(∀r∈rows,r.length=ks.length∧Qk ks r)∧Rd w w.heap.size ks.length (.slice A len cap) len rows.flatten:=
  open_rows ht ce hsz (fun n cs x hl h=>qk_struct he hfs hl h) hd
end Go.Proofs.YtokmnkmpdnlnaaaGreatDoor
