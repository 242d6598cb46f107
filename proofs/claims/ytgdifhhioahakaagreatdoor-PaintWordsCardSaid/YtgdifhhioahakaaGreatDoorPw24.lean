/- Paint, plain: a command of safe words, parted by spaces. No program is in sight. -/
import Derived.Test.YtgdifhhioahakaaGreatDoorPt24
import Derived.Test.YtgdifhhioahakaaGreatDoorCg24
namespace Go.Proofs.YtgdifhhioahakaaGreatDoor
set_option linter.unusedVariables false
set_option linter.unusedSimpArgs false
set_option maxRecDepth 100000
def wdB (k:Nat):List UInt8:=([120,121,122,120,121,122]:List UInt8).take k
def tailW (r:List Nat):List UInt8:=r.flatMap fun k=>32::wdB k
def tailT:List Nat→Nat→List Tk
  | [],_=>[]
  | k::r,x=>⟨1,x,x+1,false⟩::⟨6,x+1,x+1+k,false⟩::tailT r (x+1+k)
theorem wd_len {k:Nat} (h:k≤6):(wdB k).length=k:=by
  unfold wdB
  rw[List.length_take]
  exact Nat.min_eq_left h
theorem wd_all:(List.range 7).all (fun k=>(List.range (k+1)).all fun j=>(endB (rAt (wdB k) j).1 32)&&(decide (k≤j) || !endB (rAt (wdB k) j).1 ((wdB k).getD j 0)))=true:=by decide +kernel
theorem wd_end {k j:Nat} (h:k≤6) (hj:j≤k):endB (rAt (wdB k) j).1 32=true∧(j<k→endB (rAt (wdB k) j).1 ((wdB k).getD j 0)=false):=by
  have h1:=List.all_eq_true.1 (List.all_eq_true.1 wd_all k (List.mem_range.2 (by omega))) j (List.mem_range.2 (by omega))
  rw[Bool.and_eq_true,Bool.or_eq_true] at h1
  refine⟨h1.1,fun hk=>?_⟩
  rcases h1.2 with h2|h2
  ·exact absurd (of_decide_eq_true h2) (by omega)
  ·simpa using h2
theorem wd_one:(List.range 6).all (fun k=>shutB (wdB (k+1))&&decide (wsgn (wdB (k+1))=120)&&nameT (wdB (k+1)) && !asgT (wdB (k+1))&&decide ((wdB (k+1)).getD 0 0=120))=true:=by decide +kernel
theorem wd_is {k:Nat} (h1:1≤k) (h:k≤6):shutB (wdB k)=true∧wsgn (wdB k)=120∧nameT (wdB k)=true∧asgT (wdB k)=false∧(wdB k).getD 0 0=120:=by
  obtain⟨m,rfl⟩:∃m,k=m+1:=⟨k-1,by omega⟩
  have h2:=List.all_eq_true.1 wd_one m (List.mem_range.2 (by omega))
  simpa [and_assoc] using h2
theorem wd_cons {k:Nat} (h1:1≤k):wdB k=120::(([121,122,120,121,122]:List UInt8).take (k-1)):=by
  obtain⟨m,rfl⟩:∃m,k=m+1:=⟨k-1,by omega⟩
  rfl
theorem at_of {l d:List UInt8} {x:Nat} (h:l.drop x=d) (j:Nat):l.getD (x+j) 0=d.getD j 0:=by rw[←h,getD_drop]
theorem len_of {l d:List UInt8} {x:Nat} (h:l.drop x=d):l.length-x=d.length:=by rw[←h,List.length_drop]
theorem getW_app {a b:List UInt8} {j:Nat} (h:j<a.length):(a++b).getD j 0=a.getD j 0:=by
  rw[List.getD_eq_getElem?_getD,List.getD_eq_getElem?_getD,List.getElem?_append_left h]
theorem getW_app_at (a b:List UInt8):(a++b).getD a.length 0=b.getD 0 0:=by
  rw[List.getD_eq_getElem?_getD,List.getD_eq_getElem?_getD,List.getElem?_append_right (Nat.le_refl _),Nat.sub_self]
theorem drop_of {l a b:List UInt8} {x:Nat} (h:l.drop x=a++b):l.drop (x+a.length)=b:=by
  rw[←List.drop_drop,h,List.drop_left]
theorem tailW_hd (r:List Nat):tailW r=[]∨(tailW r).getD 0 0=32:=by
  cases r with
  | nil=>exact .inl rfl
  | cons k r=>exact .inr rfl
theorem word_end {l:List UInt8} {x k:Nat} {r:List Nat} (h1:1≤k) (h6:k≤6) (h:l.drop x=wdB k++tailW r):endL l x=k:=by
  have hl:=wd_len h6
  have hn:=len_of h
  rw[List.length_append,hl] at hn
  have hst:∀j,j≤k→rAt (l.drop x) j=rAt (wdB k) j:=fun j hj=>rAt_congr j fun i hi=>by rw[h];exact getW_app (by omega)
  have hno:∀j,j<k→endStop l x j=false:=fun j hj=>by
    unfold endStop
    rw[hst j (by omega),at_of h,getW_app (by omega)]
    exact(wd_end h6 (Nat.le_of_lt hj)).2 hj
  rcases tailW_hd r with hr|hr
  ·have hn2:l.length-x=k:=by rw[hn,hr];rfl
   obtain⟨a1,a2,a3,a4⟩:=endF_spec (endStop l x) (l.length-x) 0
   have e:endF (endStop l x) (l.length-x) 0=endL l x:=rfl
   rw[e] at a1 a2 a3 a4
   refine Nat.le_antisymm (by omega) (Nat.le_of_not_lt fun hlt=>?_)
   have:=a4 (by omega)
   rw[hno _ hlt] at this
   cases this
  ·have hp:0<(tailW r).length:=by
     cases ht:tailW r with
     | nil=>rw[ht] at hr;exact absurd hr (by decide)
     | cons a b=>exact Nat.succ_pos _
   refine endF_uniq _ _ _ _ (Nat.zero_le _) (by omega) (fun j _ hj=>hno j hj) ?_
   unfold endStop
   rw[hst k (Nat.le_refl _),at_of h]
   have:(wdB k++tailW r).getD k 0=32:=by
     have:=getW_app_at (wdB k) (tailW r)
     rw[hl] at this
     rw[this,hr]
   rw[this]
   exact(wd_end h6 (Nat.le_refl _)).1
theorem word_tok {l:List UInt8} {x k:Nat} {r:List Nat} (h1:1≤k) (h6:k≤6) (h:l.drop x=wdB k++tailW r):plainL l x=⟨6,x,x+k,false⟩∧sub l x (x+k)=wdB k:=by
  have hl:=wd_len h6
  have hw:=wd_is h1 h6
  have h0:l.getD x 0=120:=by
    have:=at_of h 0
    rw[Nat.add_zero,getW_app (by omega),hw.2.2.2.2] at this
    exact this
  have hs:sub l x (x+k)=wdB k:=by
    have hn:=len_of h
    rw[List.length_append,hl] at hn
    rw[sub_take' l x k (by omega),h,List.take_left' hl]
  refine⟨?_,hs⟩
  have hd:digN l x=0:=by
    show ((l.drop x).takeWhile _).length=0
    rw[h,wd_cons h1]
    rfl
  have c1:¬(blankB (l.getD x 0)=true∨contB l x=true):=by
    unfold contB
    rw[h0]
    simp[show blankB 120=false from rfl]
  have c4:¬0<(opAt l x).2:=by
    unfold opAt
    rw[h0,if_pos (by decide)]
    exact Nat.lt_irrefl 0
  have c5:¬numB l x=true:=by
    unfold numB
    rw[hd]
    simp
  unfold plainL
  rw[if_neg c1,h0,if_neg (by decide),if_neg (by decide),if_neg c4,if_neg c5,word_end h1 h6 h,hs,hw.1]
  rfl
theorem blank_tok {l d:List UInt8} {x:Nat} (h:l.drop x=32::120::d):plainL l x=⟨1,x,x+1,false⟩:=by
  have h0:l.getD x 0=32:=by have:=at_of h 0;exact this
  have h1:l.getD (x+1) 0=120:=at_of h 1
  have hn:=len_of h
  simp only[List.length_cons] at hn
  have b0:blankB (l.getD x 0)=true:=by rw[h0];rfl
  have e:blankL l x=x+1:=by
    rw[blankL_eq,if_pos (by omega),if_pos b0,blankL_eq,if_pos (by omega),if_neg (by rw[h1];decide),if_neg]
    unfold contB
    rw[h1]
    simp
  unfold plainL
  rw[if_pos (.inl b0),e]
theorem step_lx {l:List UInt8} {x:Nat} (h:(plainL l x).kd=1∨(plainL l x).kd=6):stepL l x lx0=(plainL l x,lx0):=by
  have e:behindL (sub l x (plainL l x).to) (plainL l x).kd lx0=lx0:=by rcases h with h|h<;>rw[h]<;>rfl
  show (plainL l x,behindL (sub l x (plainL l x).to) (plainL l x).kd lx0)=_
  rw[e]
theorem lex_one {l:List UInt8} {x m:Nat} {t:Tk} (hx:x<l.length) (hs:stepL l x lx0=(t,lx0)):(lexF l (m+1) x lx0).1=t::(lexF l m t.to lx0).1:=by
  have e:lexF l (m+1) x lx0=if x<l.length then ((stepL l x lx0).1::(lexF l m (stepL l x lx0).1.to (stepL l x lx0).2).1,(lexF l m (stepL l x lx0).1.to (stepL l x lx0).2).2) else ([],lx0):=rfl
  rw[e,if_pos hx,hs]
theorem lex_word {l:List UInt8} {x k:Nat} {r:List Nat} (h1:1≤k) (h6:k≤6) (h:l.drop x=wdB k++tailW r) (m:Nat):(lexF l (m+1) x lx0).1=⟨6,x,x+k,false⟩::(lexF l m (x+k) lx0).1:=by
  have ht:=(word_tok h1 h6 h).1
  have hn:=len_of h
  rw[List.length_append,wd_len h6] at hn
  have hs:=step_lx (l:=l) (x:=x) (.inr (by rw[ht]))
  rw[ht] at hs
  exact lex_one (by omega) hs
theorem lex_blank {l d:List UInt8} {x:Nat} (h:l.drop x=32::120::d) (m:Nat):(lexF l (m+1) x lx0).1=⟨1,x,x+1,false⟩::(lexF l m (x+1) lx0).1:=by
  have ht:=blank_tok h
  have hn:=len_of h
  simp only[List.length_cons] at hn
  have hs:=step_lx (l:=l) (x:=x) (.inl (by rw[ht]))
  rw[ht] at hs
  exact lex_one (by omega) hs
theorem lex_tail {l:List UInt8}:∀(r:List Nat) (x m:Nat),(∀k∈r,1≤k∧k≤6)→l.drop x=tailW r→(tailW r).length<m→(lexF l m x lx0).1=tailT r x
  | [],x,m+1,_,h,hm=>by
    have hn:=len_of h
    have hn:l.length-x=0:=hn
    show (if x<l.length then _ else _:List Tk×Lx).1=_
    rw[if_neg (by omega)]
    rfl
  | k::r,x,m,hr,h,hm=>by
    have hk:=hr k List.mem_cons_self
    have ht:tailW (k::r)=32::(wdB k++tailW r):=rfl
    rw[ht] at h hm
    simp only[List.length_cons,List.length_append,wd_len hk.2] at hm
    obtain⟨m2,rfl⟩:∃m2,m=m2+2:=⟨m-2,by omega⟩
    have h2:l.drop (x+1)=wdB k++tailW r:=drop_of (a:=[32]) h
    have h3:l.drop (x+1+k)=tailW r:=by
      have:=drop_of h2
      rwa [wd_len hk.2] at this
    have h4:∃d,l.drop x=32::120::d:=⟨_,by rw[h,wd_cons hk.1,List.cons_append]⟩
    obtain⟨d,h4⟩:=h4
    rw[lex_blank h4,lex_word hk.1 hk.2 h2,lex_tail r _ m2 (fun k hk=>hr k (List.mem_cons_of_mem _ hk)) h3 (by omega)]
    rfl
theorem lex_words (k:Nat) (r:List Nat) (h1:1≤k) (h6:k≤6) (hr:∀k∈r,1≤k∧k≤6):(lexL (wdB k++tailW r)).1=⟨6,0,k,false⟩::tailT r k:=by
  have h:(wdB k++tailW r).drop 0=wdB k++tailW r:=rfl
  have hd:=drop_of h
  rw[wd_len h6] at hd
  unfold lexL
  rw[lex_word h1 h6 h,Nat.zero_add,lex_tail r k _ hr (by rw[Nat.zero_add] at hd;exact hd) (by rw[List.length_append,wd_len h6];omega)]
def lfX:Lf:=⟨6,[120],0,1⟩
def SafeL (x:Lf):Prop:=x.kd=6∧∃k,1≤k∧k≤6∧x.tx=wdB k
theorem lk_safe {F:List Lf} (h:∀x∈F,SafeL x):Lk F (List.replicate F.length lfX):=by
  have key:∀i,(F[i]? = none∧(List.replicate F.length lfX)[i]? = none)∨∃x,F[i]? = some x∧SafeL x∧(List.replicate F.length lfX)[i]? = some lfX:=fun i=>by
    by_cases hi:i<F.length
    ·exact .inr ⟨_,List.getElem?_eq_getElem hi,h _ (List.getElem_mem hi),by rw[List.getElem?_replicate,if_pos hi]⟩
    ·exact .inl ⟨List.getElem?_eq_none (by omega),List.getElem?_eq_none (by simp;omega)⟩
  refine⟨by simp,fun i=>?_,fun i=>?_,fun i=>?_,fun i=>?_⟩
  ·unfold sg
   rcases key i with ⟨h1,h2⟩|⟨x,h1,⟨h3,k,h4,h5,h6⟩,h2⟩
   ·rw[h1,h2]
   ·rw[h1,h2]
    show sgnL x=120
    unfold sgnL
    rw[h3,h6,(wd_is h4 h5).2.1]
    rfl
  ·unfold isW
   rcases key i with ⟨h1,h2⟩|⟨x,h1,⟨h3,k,h4,h5,h6⟩,h2⟩
   ·rw[h1,h2]
   ·rw[h1,h2]
    show (x.kd==6)=true
    rw[h3]
    rfl
  ·unfold tx
   rcases key i with ⟨h1,h2⟩|⟨x,h1,⟨h3,k,h4,h5,h6⟩,h2⟩
   ·rw[h1,h2]
   ·rw[h1,h2]
    show asgT x.tx=asgT [120]
    rw[h6,(wd_is h4 h5).2.2.2.1]
    rfl
  ·unfold tx
   rcases key i with ⟨h1,h2⟩|⟨x,h1,⟨h3,k,h4,h5,h6⟩,h2⟩
   ·rw[h1,h2]
   ·rw[h1,h2]
    show nameT x.tx=nameT [120]
    rw[h6,(wd_is h4 h5).2.2.1]
    rfl
theorem leaf_word {l:List UInt8} {x k:Nat} (h1:1≤k) (h6:k≤6) (hx:x+k≤l.length) (hs:sub l x (x+k)=wdB k):∃f,leafZ l (tz3 ⟨6,x,x+k,false⟩)=[f]∧SafeL f:=by
  have hz:inZ l (tz3 ⟨6,x,x+k,false⟩)=true:=by
    unfold inZ tz3
    simp only[Bool.and_eq_true,decide_eq_true_eq]
    omega
  refine⟨⟨6,wdB k,(x:Int),((x+k:Nat):Int)⟩,?_,rfl,k,h1,h6,rfl⟩
  unfold leafZ
  rw[if_pos ⟨hz,rfl⟩]
  unfold txZ
  rw[if_pos hz]
  show [(⟨6,sub l ((x:Int).toNat) (((x+k:Nat):Int).toNat),(x:Int),((x+k:Nat):Int)⟩:Lf)]=_
  rw[Int.toNat_natCast,Int.toNat_natCast,hs]
theorem leaf_blank (l:List UInt8) (x:Nat):leafZ l (tz3 ⟨1,x,x+1,false⟩)=[]:=by
  unfold leafZ
  rw[if_neg]
  rintro ⟨_,h⟩
  cases h
theorem leaves_tail {l:List UInt8}:∀(r:List Nat) (x:Nat),(∀k∈r,1≤k∧k≤6)→l.drop x=tailW r→∃F,leavesZ l ((tailT r x).map tz3)=F∧F.length=r.length∧∀f∈F,SafeL f
  | [],x,_,h=>⟨[],rfl,rfl,fun f hf=>by cases hf⟩
  | k::r,x,hr,h=>by
    have hk:=hr k List.mem_cons_self
    have h:l.drop x=32::(wdB k++tailW r):=h
    have h2:l.drop (x+1)=wdB k++tailW r:=drop_of (a:=[32]) h
    have h3:l.drop (x+1+k)=tailW r:=by
      have:=drop_of h2
      rwa [wd_len hk.2] at this
    have hn:=len_of h2
    rw[List.length_append,wd_len hk.2] at hn
    obtain⟨F,e,e2,e3⟩:=leaves_tail r (x+1+k) (fun k hk=>hr k (List.mem_cons_of_mem _ hk)) h3
    obtain⟨f,e4,e5⟩:=leaf_word hk.1 hk.2 (by omega) (word_tok hk.1 hk.2 h2).2
    refine⟨f::F,?_,by simp[e2],fun g hg=>?_⟩
    ·show leafZ l (tz3 ⟨1,x,x+1,false⟩)++(leafZ l (tz3 ⟨6,x+1,x+1+k,false⟩)++leavesZ l ((tailT r (x+1+k)).map tz3))=_
     rw[leaf_blank,e4,e]
     rfl
    ·rcases List.mem_cons.1 hg with rfl|hg
     ·exact e5
     ·exact e3 g hg
theorem parse_words (k:Nat) (r:List Nat) (h1:1≤k) (h6:k≤6) (hr:∀k∈r,1≤k∧k≤6):parseT (lvs3 (wdB k++tailW r))=parseT (List.replicate (r.length+1) lfX):=by
  have h:(wdB k++tailW r).drop 0=wdB k++tailW r:=rfl
  have hd:=drop_of h
  rw[wd_len h6,Nat.zero_add] at hd
  obtain⟨F,e,e2,e3⟩:=leaves_tail r k hr hd
  have hw:=(word_tok h1 h6 h).2
  rw[Nat.zero_add] at hw
  obtain⟨f,e4,e5⟩:=leaf_word (l:=wdB k++tailW r) (x:=0) h1 h6 (by rw[List.length_append,wd_len h6];omega) (by rw[Nat.zero_add];exact hw)
  rw[Nat.zero_add] at e4
  have hl:lvs3 (wdB k++tailW r)=f::F:=by
    unfold lvs3
    rw[lex_words k r h1 h6 hr]
    show leafZ _ (tz3 ⟨6,0,k,false⟩)++leavesZ _ ((tailT r k).map tz3)=_
    rw[e4,e]
    rfl
  rw[hl,lk_parse (lk_safe (F:=f::F) fun g hg=>by
    rcases List.mem_cons.1 hg with rfl|hg
    ·exact e5
    ·exact e3 g hg)]
  simp[e2]
def wdN (n:Nat):Bool:=(List.range (n+1)).all fun j=>(kdA (parseT (List.replicate (n+1) lfX)).l (coverF (parseT (List.replicate (n+1) lfX)).l j (parseT (List.replicate (n+1) lfX)).l.length).toNat==7)&&(cmdW (parseT (List.replicate (n+1) lfX)).l (coverF (parseT (List.replicate (n+1) lfX)).l j (parseT (List.replicate (n+1) lfX)).l.length).toNat==(j==0))
theorem wdN_all:(List.range 8).all wdN=true:=by kernel_rfl
theorem wdN_at {n j:Nat} (hn:n≤7) (hj:j≤n):kdA (parseT (List.replicate (n+1) lfX)).l (coverF (parseT (List.replicate (n+1) lfX)).l j (parseT (List.replicate (n+1) lfX)).l.length).toNat=7∧cmdW (parseT (List.replicate (n+1) lfX)).l (coverF (parseT (List.replicate (n+1) lfX)).l j (parseT (List.replicate (n+1) lfX)).l.length).toNat=(j==0):=by
  have h:=List.all_eq_true.1 (List.all_eq_true.1 wdN_all n (List.mem_range.2 (by omega))) j (List.mem_range.2 (by omega))
  rw[Bool.and_eq_true] at h
  exact⟨by simpa using h.1,eq_of_beq h.2⟩
theorem wd_cls:(List.range 7).all (fun k=>[true,false].all fun b=>decide ((List.range k).map (wordC (wdB k) 7 b)=List.replicate k (if b=true then 6 else 7)))=true:=by kernel_rfl
theorem wd_map {k:Nat} (h:k≤6) (b:Bool):(List.range k).map (wordC (wdB k) 7 b)=List.replicate k (if b=true then 6 else 7):=by
  have h1:=List.all_eq_true.1 (List.all_eq_true.1 wd_cls k (List.mem_range.2 (by omega))) b (by cases b<;>decide)
  exact of_decide_eq_true h1
def WdL (L:List Nd) (n:Nat):Prop:=∀j,j≤n→kdA L (coverF L j L.length).toNat=7∧cmdW L (coverF L j L.length).toNat=(j==0)
theorem tok_word {l:List UInt8} {L:List Nd} {x k n j:Nat} (hL:WdL L n) (h6:k≤6) (hs:sub l x (x+k)=wdB k) (hj:j≤n):tokC l L ⟨6,x,x+k,false⟩ j=List.replicate k (if (j==0)=true then 6 else 7):=by
  obtain⟨a,b⟩:=hL j hj
  have e:nodeT L ⟨6,x,x+k,false⟩ j=(coverF L j L.length).toNat:=rfl
  unfold tokC
  rw[e,a,b]
  show (if wholeC 6 7=0 then (List.range (x+k-x)).map (wordC (sub l x (x+k)) 7 (j==0)) else _)=_
  rw[if_pos (by decide),hs,Nat.add_sub_cancel_left,wd_map h6]
theorem tok_blank (l:List UInt8) (L:List Nd) (x j:Nat):tokC l L ⟨1,x,x+1,false⟩ j=[1]:=by
  unfold tokC
  have:∀z,wholeC 1 z=1:=fun z=>by unfold wholeC;rw[if_pos (.inl rfl)]
  simp only[this]
  rw[if_neg (by decide),Nat.add_sub_cancel_left]
  rfl
theorem cls_tail {l:List UInt8} {L:List Nd} {n:Nat} (hL:WdL L n):∀(r:List Nat) (x j:Nat),(∀k∈r,1≤k∧k≤6)→l.drop x=tailW r→1≤j→j+r.length=n+1→clsF l L (tailT r x) j=r.flatMap fun k=>1::List.replicate k 7
  | [],x,j,_,_,_,_=>rfl
  | k::r,x,j,hr,h,hj,hl=>by
    have hk:=hr k List.mem_cons_self
    have h:l.drop x=32::(wdB k++tailW r):=h
    have h2:l.drop (x+1)=wdB k++tailW r:=drop_of (a:=[32]) h
    have h3:l.drop (x+1+k)=tailW r:=by
      have:=drop_of h2
      rwa [wd_len hk.2] at this
    simp only[List.length_cons] at hl
    have ih:=cls_tail hL r (x+1+k) (j+1) (fun k hk=>hr k (List.mem_cons_of_mem _ hk)) h3 (by omega) (by omega)
    show tokC l L ⟨1,x,x+1,false⟩ j++(tokC l L ⟨6,x+1,x+1+k,false⟩ j++clsF l L (tailT r (x+1+k)) (j+1))=_
    rw[tok_blank,tok_word hL hk.2 (word_tok hk.1 hk.2 h2).2 (by omega),ih,if_neg (by simp;omega)]
    rfl
theorem words_law (k:Nat) (r:List Nat) (h1:1≤k) (h6:k≤6) (hr:∀k∈r,1≤k∧k≤6) (hn:r.length≤7):(clsT (wdB k++tailW r)).map letC=List.replicate k 99++r.flatMap fun k=>95::List.replicate k 97:=by
  have h:(wdB k++tailW r).drop 0=wdB k++tailW r:=rfl
  have hd:=drop_of h
  rw[wd_len h6,Nat.zero_add] at hd
  have hw:=(word_tok h1 h6 h).2
  unfold clsT
  rw[parse_words k r h1 h6 hr,lex_words k r h1 h6 hr]
  have hL:WdL (parseT (List.replicate (r.length+1) lfX)).l r.length:=fun j hj=>wdN_at hn hj
  obtain⟨L,e⟩:∃L,L=(parseT (List.replicate (r.length+1) lfX)).l:=⟨_,rfl⟩
  rw[←e] at hL ⊢
  clear e
  have ih:=cls_tail (l:=wdB k++tailW r) hL r k 1 hr hd (Nat.le_refl _) (by omega)
  have ht:=tok_word (x:=0) (j:=0) hL h6 hw (Nat.zero_le _)
  rw[Nat.zero_add] at ht
  show (tokC _ L ⟨6,0,k,false⟩ 0++clsF _ L (tailT r k) 1).map letC=_
  rw[ht,ih,List.map_append,List.map_replicate,List.map_flatMap]
  congr 1
  congr 1
  funext z
  rw[List.map_cons,List.map_replicate]
  rfl
end Go.Proofs.YtgdifhhioahakaaGreatDoor
