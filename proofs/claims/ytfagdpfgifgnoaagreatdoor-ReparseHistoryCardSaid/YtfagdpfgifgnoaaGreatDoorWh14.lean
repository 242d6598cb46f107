/- The last step of a law: the call answered true and kept all that was there; so the row's post holds. -/
import Derived.Test.YtfagdpfgifgnoaaGreatDoorRows
import Derived.Test.YtfagdpfgifgnoaaGreatDoorCm10
import Derived.Test.YtfagdpfgifgnoaaGreatDoorDp14
import Derived.Test.YtfagdpfgifgnoaaGreatDoorSt13
import Derived.Test.YtfagdpfgifgnoaaGreatDoorSm9
import Derived.WalkKit
import Derived.ProofKit
import Derived.OpenShut
import Derived.ShutString
import Derived.Below
import Derived.ChangeSame
import Derived.BigQuiet
set_option linter.unusedVariables false
set_option linter.unusedSimpArgs false
set_option maxRecDepth 100000
set_option maxHeartbeats 8000000
namespace Go.Proofs.YtfagdpfgifgnoaaGreatDoor
section
open Go.ChangeShapes Go.WideShapes Go.ChangeAt Go.RowKit
theorem Fj {H:Type} {enc:TypeId×Value→H} {f:Func} {s:ChangeSpec} {apart fresh handsOn again:Bool} {W W':World} {args:Array Value} {ds:List (DataW H)} {pl:List MemPlace}
    (hW:DataW.Whole enc Tryz.prog f.params.toList s.vars apart W args.toList ds [] pl) (hb:Below W.heap.size W W') (hv:s.vars=[])
    (hfn:s.fn H (ds++[])={results:=[.lit (.bool true)],args:=ds,vars:=[]}) (hres:f.resultTypes=#[4])
    (hargs:∀sp:Nat→Bool,(∀p∈pl,sp p.block=true)→DataW.TrodAll enc Tryz.prog W' 0 sp true f.params.toList args.toList ds pl) :
    s.post enc Tryz.prog f apart fresh handsOn again W args (.bool true) W':=by
  have old:∀p∈pl,p.block<W.heap.size:=fun p hp=>hW.lt p hp
  have hR:∀(b:Nat) (sp:Nat→Bool) (hd:Bool),DataW.TrodAll enc Tryz.prog W' b sp hd f.resultTypes.toList ((Value.bool true).resultList f.resultTypes.size) (s.fn H (ds++[])).results []:=by
    intro b sp hd;rw[hres,hfn];exact trodAll_cons_mk (shut_bool Tryz.underlying4 _) trodAll_mk0
  have hA:∀sp:Nat→Bool,(∀p∈pl,sp p.block=true)→DataW.TrodAll enc Tryz.prog W' 0 sp true f.params.toList args.toList (s.fn H (ds++[])).args pl:=by
    intro sp h;rw[hfn];exact hargs sp h
  have hV:∀sp:Nat→Bool,DataW.TrodVars enc Tryz.prog W' sp s.vars (s.fn H (ds++[])).vars []:=by
    intro sp;rw[hfn,hv];rfl
  refine⟨ds,[],pl,[],pl,[],hW,hR _ _ _,hA _ (fun p hp=>by simpa using old p hp),hV _,World.keptBut_mono (fun p hp=>⟨hp,?_⟩) (hb.frame (· ∈ pl)),fun _=>?_⟩
  ·simpa using hp
  ·obtain⟨_,_,_,_,_,hz,hn⟩:=hW;refine⟨?_,_,_,pl++[],⟨[]++pl,[],trodAll_append (hA _ (fun _ _=>rfl)) (hR _ _ _),hV _,by simp,?_,?_⟩,?_⟩
   ·exact ok_one (by rw[hres]) rfl (okWide_bool_mk Tryz.underlying4 _)
   ·intro b off hp;have hin:MemPlace.cell b off∈pl:=by simpa using hp
    rw[hb.frozen (old _ hin)];exact hz b off hin
   ·intro ha;simpa using hn ha
   ·intro p hp _;simpa using hp
end
end Go.Proofs.YtfagdpfgifgnoaaGreatDoor
set_option linter.unusedVariables false
set_option linter.unusedSimpArgs false
set_option maxRecDepth 100000
set_option maxHeartbeats 8000000
namespace Go.Proofs.YtfagdpfgifgnoaaGreatDoor
open Go.RowKit
theorem F2 {p x y c:List UInt8}:lE (p++(x++c)) x (p.length:Int)=true∧mt (p++(x++c)) x y (p.length:Int)=p++(y++c):=yp ⟨p,x,y,c⟩
theorem AG {l t:List UInt8} {k:Nat} (h:l.take k=t.take k) (h1:k<l.length) (h2:k<t.length) (h3:l.getD k 0=t.getD k 0):l.take (k+1)=t.take (k+1):=by
  rw[List.take_add_one,List.take_add_one,h,List.getElem?_eq_getElem h1,List.getElem?_eq_getElem h2];rw[List.getD_eq_getElem?_getD,List.getElem?_eq_getElem h1,List.getD_eq_getElem?_getD,List.getElem?_eq_getElem h2] at h3;simp at h3;simp[h3]
theorem uw {x:List UInt8} (h:0<x.length):x=x.take (x.length-1)++[x.getD (x.length-1) 0]:=by
  have h1:x.length-1<x.length:=by omega
  rw[List.getD_eq_getElem?_getD,List.getElem?_eq_getElem h1];have h2:=List.take_append_drop (x.length-1) x;rw[List.drop_eq_getElem_cons h1,List.drop_of_length_le (by omega)] at h2;exact h2.symm
theorem Eb {P:World→Prop} {B:Nat} {W wr:World} (n m:Nat) (hb:Below B W wr) (h:∀W2,Below B W W2→P W2):P ((wr.drewN n).drewN m):=h _ (ae (ae hb n) m)
def lenOf:Value→Nat
  | .string b=>b.size
  | _=>0
theorem Gs (l t:List UInt8) (w:World) (hl:l.length≤100000) (ht:t.length≤100000) :
    Calls Tryz.prog 21 #[.string ⟨l.toArray⟩,.string ⟨t.toArray⟩] w fun e w'=>∃(p x y c:List UInt8),l=p++(x++c)∧t=p++(y++c)∧e=.returned (.agg #[.int .i64 (p.length:Int),.string ⟨x.toArray⟩,.string ⟨y.toArray⟩])∧Below w.heap.size w w':=by
  go_enter Tryz.func21,Tryz.ntmps21;go_wp2;refine gQ fun W hbW kW hsW=>?_
  have HW:=Lib.hid (And.intro hbW kW);clear hbW kW hsW;go_step3;go_wp2;go_loopw [5] (fun i wr=>∃k:Nat,k≤l.length∧k≤t.length∧i=.int .i64 (k:Int)∧l.take k=t.take k∧Below W.heap.size W wr) (fun i _=>l.length-(intOf i).toNat)
  case atStart=>exact⟨0,Nat.zero_le _,Nat.zero_le _,rfl,rfl,Below.refl _ _⟩
  case round=>
    obtain⟨k,hk1,hk2,rfl,he,hb⟩:=hrel;have HB:=Lib.hid (And.intro he hb);clear he hb;have key:(decide (k<l.length)=true∧decide (k<t.length)=true∧∃(c d:UInt8) (g1:k<(ByteArray.mk l.toArray).size) (g2:k<(ByteArray.mk t.toArray).size),(ByteArray.mk l.toArray)[k]'g1=c∧(ByteArray.mk t.toArray)[k]'g2=d∧c=l.getD k 0∧d=t.getD k 0)∨(decide (k<l.length)=true∧decide (k<t.length)=false)∨(decide (k<l.length)=false):=by
      by_cases h1:k<l.length
      ·by_cases h2:k<t.length
       ·obtain⟨g1,g2⟩:=vg l k h1;obtain⟨g3,g4⟩:=vg t k h2;exact .inl ⟨decide_eq_true h1,decide_eq_true h2,_,_,g1,g3,g2,g4,rfl,rfl⟩
       ·exact .inr (.inl ⟨decide_eq_true h1,decide_eq_false h2⟩)
      ·exact .inr (.inr (decide_eq_false h1))
    have u3:(0:Int)≤(k:Int):=by omega
    have v1:(k:Int)≤(l.length:Int):=by omega
    have v2:(k:Int)≤(t.length:Int):=by omega
    rcases key with ⟨d1,d2,c,d,g1,g2,g3,g4,g5,g6⟩|⟨d1,d2⟩|d1
    case' inl=>
      have u1:(k:Int)<(l.length:Int):=by have:=of_decide_eq_true d1;omega
      have u2:(k:Int)<(t.length:Int):=by have:=of_decide_eq_true d2;omega
      have HG:=Lib.hid (And.intro g5 g6);clear g5 g6
      cases hq:((c.toNat:Int)==(d.toNat:Int))
      case' true=>
        go_wp2_with fail;go_quiet (fail);go_wp2_with fail;refine⟨⟨k+1,by omega,by omega,by go_num,AG HB.out.1 (by omega) (by omega) ?_,ae HB.out.2 _⟩,by simp[intOf]<;>omega⟩;rw[←HG.out.1,←HG.out.2];have hq2:c.toNat=d.toNat:=by rw[beq_iff_eq] at hq;omega
        exact UInt8.toNat_inj.1 hq2
    all_goals (
      go_wp2_with fail;go_quiet (fail);go_wp2_with fail;go_quiet (fail);refine Eb (P:=fun W'=>Exit.then _ _ Exit.normal _ W') _ _ HB.out.2 (fun W2 hb2=>?_);have HE:=Lib.hid (And.intro HB.out.1 hb2);clear hb2 HB;go_wp2;go_step3;go_wp2;go_loopw [6,7] (fun sx sy wr2=>∃x y c:List UInt8,sx=.string ⟨x.toArray⟩∧sy=.string ⟨y.toArray⟩∧l.drop k=x++c∧t.drop k=y++c∧Below W.heap.size W wr2) (fun sx _ _=>lenOf sx)
      case atStart=>exact⟨l.drop k,t.drop k,[],by rw[aS,List.take_length],by rw[aS,List.take_length],by simp,by simp,HE.out.2⟩
      case round=>
        obtain⟨x,y,c2,rfl,rfl,hx,hy,hb2⟩:=hrel;have HX:=Lib.hid (And.intro hx (And.intro hy hb2));have hxl:x.length≤100000:=by have:=congrArg List.length hx;simp at this;omega
        have hyl:y.length≤100000:=by have:=congrArg List.length hy;simp at this;omega
        clear hx hy hb2;have hbx:=HW.out.1.trans (HX.out.2.2.mono HW.out.1.size);have kbx:=HW.out.2.below HX.out.2.2 HW.out.2.lt;obtain⟨q0,q1,q2,q3,q4,q5⟩:=kbx.three;have HK:=Lib.hid (And.intro hbx kbx);clear hbx kbx;have ex:x=[]∨∃x' a,x=x'++[a]:=by
          rcases Nat.eq_zero_or_pos x.length with h|h
          ·exact .inl (List.length_eq_zero_iff.1 h)
          ·exact .inr ⟨_,_,uw h⟩
        have ey:y=[]∨∃y' b,y=y'++[b]:=by
          rcases Nat.eq_zero_or_pos y.length with h|h
          ·exact .inl (List.length_eq_zero_iff.1 h)
          ·exact .inr ⟨_,_,uw h⟩
        rcases ex with rfl|⟨x',a,rfl⟩
        ·obtain⟨hbx,kbx⟩:=HK.out;go_wp2_with fail;have b6:=(((hbx.setCell (p:=⟨w.heap.size,0,none⟩) (Nat.le_refl _) (.int .i64 (k:Int))).setCell (p:=⟨w.heap.size,1,none⟩) (Nat.le_refl _) (.string ⟨([]).toArray⟩)).setCell (p:=⟨w.heap.size,2,none⟩) (Nat.le_refl _) (.string ⟨(y).toArray⟩));have k6:=((kbx.set 0 (.int .i64 (k:Int))).set 1 (.string ⟨([]).toArray⟩)).set 2 (.string ⟨(y).toArray⟩);generalize World.setCell _ _ _=W6 at b6 k6 ⊢;have c0:W6.cell? ⟨w.heap.size,0,none⟩=some (.int .i64 (k:Int)):=by rw[k6.cell];rfl
         have c1:W6.cell? ⟨w.heap.size,1,none⟩=some (.string ⟨([]).toArray⟩):=by rw[k6.cell];rfl
         have c3:W6.cell? ⟨w.heap.size,2,none⟩=some (.string ⟨(y).toArray⟩):=by rw[k6.cell];rfl
         refine⟨rfl,.agg #[.int .i64 (k:Int),.string ⟨([]).toArray⟩,.string ⟨(y).toArray⟩],by simp[results,Tryz.results21,go_sem,c0,c1,c3],l.take k,[],y,c2,?_,?_,?_,b6⟩
         ·rw[←HX.out.1,List.take_append_drop]
         ·rw[←HX.out.2.1,HE.out.1,List.take_append_drop]
         ·rw[List.length_take,Nat.min_eq_left hk1]
        rcases ey with rfl|⟨y',b,rfl⟩
        ·obtain⟨hbx,kbx⟩:=HK.out;go_wp2_with fail;have b6:=(((hbx.setCell (p:=⟨w.heap.size,0,none⟩) (Nat.le_refl _) (.int .i64 (k:Int))).setCell (p:=⟨w.heap.size,1,none⟩) (Nat.le_refl _) (.string ⟨(x'++[a]).toArray⟩)).setCell (p:=⟨w.heap.size,2,none⟩) (Nat.le_refl _) (.string ⟨([]).toArray⟩));have k6:=((kbx.set 0 (.int .i64 (k:Int))).set 1 (.string ⟨(x'++[a]).toArray⟩)).set 2 (.string ⟨([]).toArray⟩);generalize World.setCell _ _ _=W6 at b6 k6 ⊢;have c0:W6.cell? ⟨w.heap.size,0,none⟩=some (.int .i64 (k:Int)):=by rw[k6.cell];rfl
         have c1:W6.cell? ⟨w.heap.size,1,none⟩=some (.string ⟨(x'++[a]).toArray⟩):=by rw[k6.cell];rfl
         have c3:W6.cell? ⟨w.heap.size,2,none⟩=some (.string ⟨([]).toArray⟩):=by rw[k6.cell];rfl
         refine⟨rfl,.agg #[.int .i64 (k:Int),.string ⟨(x'++[a]).toArray⟩,.string ⟨([]).toArray⟩],by simp[results,Tryz.results21,go_sem,c0,c1,c3],l.take k,x'++[a],[],c2,?_,?_,?_,b6⟩
         ·rw[←HX.out.1,List.take_append_drop]
         ·rw[←HX.out.2.1,HE.out.1,List.take_append_drop]
         ·rw[List.length_take,Nat.min_eq_left hk1]
        obtain⟨m,hm⟩:∃m,m=x'.length:=⟨_,rfl⟩;obtain⟨n,hn⟩:∃n,n=y'.length:=⟨_,rfl⟩;obtain⟨X,hX⟩:∃X,X=x'++[a]:=⟨_,rfl⟩;obtain⟨Y,hY⟩:∃Y,Y=y'++[b]:=⟨_,rfl⟩;have lX:X.length=m+1:=by rw[hX,hm];simp
        have lY:Y.length=n+1:=by rw[hY,hn];simp
        obtain⟨g5,g6⟩:=vg X m (by omega);obtain⟨g7,g8⟩:=vg Y n (by omega);rw[show X.getD m 0=a by rw[hX,hm];simp] at g6;rw[show Y.getD n 0=b by rw[hY,hn];simp] at g8;have eX:(ByteArray.mk X.toArray).extract 0 m=⟨x'.toArray⟩:=by rw[aS,hX,hm,List.take_left];rfl
        have eY:(ByteArray.mk Y.toArray).extract 0 n=⟨y'.toArray⟩:=by rw[aS,hY,hn,List.take_left];rfl
        rw[←hX] at hxl HX ⊢;rw[←hY] at hyl HX ⊢;have p1:(0:Int)≤(m:Int):=by omega
        have p2:(0:Int)≤(n:Int):=by omega
        have p3:(m:Int)<(X.length:Int):=by omega
        have p4:(n:Int)<(Y.length:Int):=by omega
        have p5:IntKind.i64.wrap ((X.length:Int)-1)=(m:Int):=by rw[IntWalk.i64_in _ (by omega)];omega
        have p6:IntKind.i64.wrap ((Y.length:Int)-1)=(n:Int):=by rw[IntWalk.i64_in _ (by omega)];omega
        have p7:(0:Int)<(X.length:Int):=by omega
        have p8:(0:Int)<(Y.length:Int):=by omega
        have p9:(m:Int)≤(X.length:Int):=by omega
        have p10:(n:Int)≤(Y.length:Int):=by omega
        have HL:=Lib.hid (And.intro hm (And.intro hn (And.intro hX (And.intro hY (And.intro lX lY)))));clear hm hn hX hY lX lY
        cases hq:((a.toNat:Int)==(b.toNat:Int))
        ·go_wp2_with fail;go_quiet (fail);have hbx:=ae HK.out.1 nq;have kbx:Bk (wr.drewN nq) w.heap.size 33 _:=HK.out.2;obtain⟨q0,q1,q2,q3,q4,q5⟩:=kbx.three;go_wp2_with fail;have b6:=(((hbx.setCell (p:=⟨w.heap.size,0,none⟩) (Nat.le_refl _) (.int .i64 (k:Int))).setCell (p:=⟨w.heap.size,1,none⟩) (Nat.le_refl _) (.string ⟨(X).toArray⟩)).setCell (p:=⟨w.heap.size,2,none⟩) (Nat.le_refl _) (.string ⟨(Y).toArray⟩));have k6:=((kbx.set 0 (.int .i64 (k:Int))).set 1 (.string ⟨(X).toArray⟩)).set 2 (.string ⟨(Y).toArray⟩);generalize World.setCell _ _ _=W6 at b6 k6 ⊢;have c0:W6.cell? ⟨w.heap.size,0,none⟩=some (.int .i64 (k:Int)):=by rw[k6.cell];rfl
         have c1:W6.cell? ⟨w.heap.size,1,none⟩=some (.string ⟨(X).toArray⟩):=by rw[k6.cell];rfl
         have c3:W6.cell? ⟨w.heap.size,2,none⟩=some (.string ⟨(Y).toArray⟩):=by rw[k6.cell];rfl
         refine⟨rfl,.agg #[.int .i64 (k:Int),.string ⟨(X).toArray⟩,.string ⟨(Y).toArray⟩],by simp[results,Tryz.results21,go_sem,c0,c1,c3],l.take k,X,Y,c2,?_,?_,?_,b6⟩
         ·rw[←HX.out.1,List.take_append_drop]
         ·rw[←HX.out.2.1,HE.out.1,List.take_append_drop]
         ·rw[List.length_take,Nat.min_eq_left hk1]
        ·go_wp2_with fail;go_quiet (fail);go_wp2_with fail;go_quiet (fail);go_wp2_with fail;obtain⟨hm,hn,hX,hY,lX,lY⟩:=HL.out;have hab:a=b:=UInt8.toNat_inj.1 (by rw[beq_iff_eq] at hq;omega);refine⟨⟨x',y',a::c2,rfl,rfl,?_,?_,ae (ae HX.out.2.2 _) _⟩,?_⟩
         ·rw[HX.out.1,hX];simp
         ·rw[HX.out.2.1,hY,hab];simp
         ·show x'.length<X.length;omega)
end Go.Proofs.YtfagdpfgifgnoaaGreatDoor
namespace Go.Proofs.YtfagdpfgifgnoaaGreatDoor
open Go.RowKit
set_option linter.unusedVariables false
set_option linter.unusedSimpArgs false
set_option maxRecDepth 100000
theorem Rt.turn {X:Nat→Prop} {w w':World} {e:TypeId} {sz n:Nat} {v:Value} {xs:List Value} (h:Rt w e sz v n xs) (hx:XG X w w') (hr:∀k,X k→∃t cs,Bk w k t cs∧e≠t):Rt w' e sz v n xs:=by
  obtain⟨h1,A,c,rfl,h3,h4,h5,h6⟩:=h;refine⟨h1,A,c,rfl,h3,h4,h5,fun hn=>?_⟩;obtain⟨g,o,cur,fr,ha,hh,hc⟩:=h6 hn;have hl:=(Array.getElem?_eq_some_iff.1 hh).1;have hb:=hx.block g hl (fun hX=>by
    obtain⟨t,cs,hk,ht⟩:=hr g hX;exact ht (by have:=hk.symm.trans hh;injection this with this;injection this with _ this;exact this.symm))
  exact⟨g,o,cur,fr,ha,hb.trans hh,fun j u hj=>by have:=hc j u hj;unfold World.cell? at this ⊢;rw[hb];exact this⟩
theorem ReD.other {W W':World} {g d g' d':Nat} {l l':List UInt8} (h:ReD W g d l) (h':ReD W g' d' l') (hx:GrD14 g' d' W W') (hne:g≠g') (hne2:d≠d'):ReD W' g d l:=by
  obtain⟨fv,tvv,h1,h2,h3⟩:=h.ex;obtain⟨fv',tvv',h1',_⟩:=h'.ex;obtain⟨xs,lv,pv,k1,k2,k3⟩:=h.doc;obtain⟨_,_,_,_,k2',_⟩:=h'.doc;have hr:∀{e:TypeId},e≠45→e≠90→∀k,(k=g'∨k=d')→∃t cs,Bk W k t cs∧e≠t:=fun he hf k hk=>by
    rcases hk with rfl|rfl
    ·exact⟨_,_,h1',he⟩
    ·exact⟨_,_,k2'.bk,hf⟩
  have n1:g≠d':=fm h1 k2'.bk (by decide);have n2:d≠g':=(fm h1' k2.bk (by decide)).symm
  exact⟨⟨fv,tvv,(hx.block g h1.lt (by rintro (e|e)<;>omega)).trans h1,h2.turn hx (hr (by decide) (by decide)),h3.turn hx (hr (by decide) (by decide))⟩,
    ⟨xs,lv,pv,k1,⟨(hx.block d k2.bk.lt (by rintro (e|e)<;>omega)).trans k2.bk,fun q hq=>(k2.ps q hq).turn hx (hr (by decide) (by decide)),k2.pv.turn hx (hr (by decide) (by decide))⟩,k3.turn hx (hr (by decide) (by decide))⟩⟩
structure HiC (l:List UInt8) (N:Nat) (ts:List Tk) (L:List Nd):Prop where
  tx:∀g W,mE W g l→Calls Tryz.prog 17 #[.pointer (some ⟨g,0,none⟩)] W fun e w'=>e=.returned (.string ⟨l.toArray⟩)∧w'=W
  tk:∀g W,mE W g l→Calls Tryz.prog 23 #[.pointer (some ⟨g,0,none⟩)] W fun e w'=>∃v,e=.returned v∧w'.ownsRow W.heap.size 94 4 v N (fU ts)∧Below W.heap.size W w'
  st:∀(A A':Option Addr) (c c':Nat) (W:World),Rd W W.heap.size 4 (.slice A N c) N (fU ts)→Rd W W.heap.size 4 (.slice A' N c') N (fU ts)→Calls Tryz.prog 22 #[.slice A N c,.slice A' N c'] W fun e w'=>e=.returned (.bool true)∧Below W.heap.size W w'
  tre:∀g d W,ReD W g d l→Calls Tryz.prog 14 #[.pointer (some ⟨g,0,none⟩)] W fun e w'=>∃v,e=.returned v∧w'.ownsRow W.heap.size 49 4 v L.length (dt L)∧Below W.heap.size W w'
  sm:∀(A A':Option Addr) (c c':Nat) (W:World),Rd W W.heap.size 4 (.slice A L.length c) L.length (dt L)→Rd W W.heap.size 4 (.slice A' L.length c') L.length (dt L)→Calls Tryz.prog 11 #[.slice A L.length c,.slice A' L.length c'] W fun e w'=>e=.returned (.bool true)∧Below W.heap.size W w'
theorem hiC (l:List UInt8) (hl:l.length≤900):∃N ts L,HiC l N ts L:=by
  have h2:=lex14_len l;have hpl:=par_len (lvs14 l);have hfb:=(lvs14_fb l hl).n;exact⟨_,(dV l).1,(cE (lvs14 l)).l,fun g W h=>F1 g l W h,fun g W h=>Gp g l W h hl,fun A A' c c' W h1 h2=>FR _ A A' c c' W (by omega) h1 h2,fun g d W h=>tree14_m g d l W h hl,fun A A' c c' W h1 h2=>Dx _ A A' c c' W (by omega) h1 h2⟩
theorem apply14_d (g d:Nat) (p x y c:List UInt8) (w:World) (hD:ReD w g d (p++(x++c))) (hl:(p++(x++c)).length≤900) (hl2:(p++(y++c)).length≤900) :
    Calls Tryz.prog 15 #[.pointer (some ⟨g,0,none⟩),.agg #[.int .i64 (p.length:Int),.string ⟨x.toArray⟩,.string ⟨y.toArray⟩]] w fun e w'=>∃k:Int,e=.returned (.tuple #[.int .i64 k,.int .i64 0])∧ReD w' g d (p++(y++c))∧GrD14 g d w w':=by
  have hp:p.length≤900:=by rw[List.length_append] at hl;omega
  refine(apply14_g g d (p++(x++c)) (p++(y++c)) ⟨(p.length:Int),x,y,by omega⟩ true w hD hl hl2 (fun h=>by cases h) (fun W hW=>?_)).mono ?_
  ·refine(Ae d ⟨p,x,y,c⟩ W hW hl hl2 (F2 (y:=y)).1 F2.2).mono ?_;rintro e w' ⟨T,_,rfl,h2,h4⟩;exact⟨_,_,rfl,h2,h4⟩
  ·rintro e w' ⟨rfl,h1,h2⟩;exact⟨_,rfl,h1,h2⟩
set_option maxHeartbeats 4000000 in
theorem reparseHistory_w (l0:List UInt8) (xs:List Ez) (A:Option Addr) (n c:Nat) (w:World) (hm:l0.length≤9223372036854775807) (hrd:Rd w w.heap.size 3 (.slice A n c) n (Ft xs)) (hn:n=xs.length) (hm1:n≤9223372036854775807) :
    Calls Tryz.prog 6 #[.string ⟨l0.toArray⟩,.slice A n c] w fun e w'=>e=.returned (.bool true)∧Below w.heap.size w w':=by
  subst hn;have key:(100:Int)<(l0.length:Int)∨(¬(100:Int)<(l0.length:Int)∧(6:Int)<(xs.length:Int))∨(l0.length≤100∧xs.length≤6):=by omega
  rcases key with k|⟨k,k0⟩|⟨k1,k2⟩
  case' inr.inr=>skip
  case inl=>
    clear hrd;go_enter Tryz.func6,Tryz.ntmps6;go_wp2_with (
      (go_at_call 7;refine(awake14_c _).mono ?_;rintro e w1 ⟨rfl,hb⟩;have H1:=Lib.hid hb;clear hb))
    go_ret;exact⟨rfl,H1.out⟩
  case inr.inl=>
    clear hrd;go_enter Tryz.func6,Tryz.ntmps6;go_wp2_with (
      (go_at_call 7;refine(awake14_c _).mono ?_;rintro e w1 ⟨rfl,hb⟩;have H1:=Lib.hid hb;clear hb))
    go_ret;exact⟨rfl,H1.out⟩
  ·have u100:¬(100:Int)<(l0.length:Int):=by omega
   have u6:¬(6:Int)<(xs.length:Int):=by omega
   have HC:=Lib.hid hrd;have c7:=fun W=>new14_m l0 W (by omega)
   have HN:=Lib.hid c7;clear hrd c7;go_enter Tryz.func6,Tryz.ntmps6
   go_wp2_with (first
     | (go_at_call 7;refine(awake14_c _).mono ?_;rintro e w1 ⟨rfl,hb⟩;have H1:=Lib.hid hb;clear hb)
     | (go_at_call 13
        first
          | (have hgw:=H2.out.1;refine(HN.out w2).mono ?_;rintro e w3 ⟨g2,d2,rfl,hg,hd,hD,hb⟩;have hne:g≠g2∧d≠d2:=by have:=H2.out.2.1.lt;omega
             have H3:=Lib.hid (And.intro hD (And.intro (H2.out.2.1.next hb) (And.intro (H2.out.2.2.trans (hb.mono H2.out.2.2.size)) (And.intro (Nat.le_trans H2.out.2.2.size hg) (Nat.le_trans H2.out.2.2.size hd)))));clear hg hd hD hb)
          | (refine(HN.out w1).mono ?_;rintro e w2 ⟨g,d,rfl,hg,hd,hD,hb⟩;have H2:=Lib.hid (And.intro (And.intro (Nat.le_trans H1.out.size hg) (Nat.le_trans H1.out.size hd)) (And.intro hD (H1.out.trans (hb.mono H1.out.size))));clear hg hd hD hb))
     | fail)
   go_loopw [9] (fun i wr=>∃(k:Nat) (l:List UInt8),k≤xs.length∧i=.int .i64 k∧l.length≤100+60*k∧ReD wr g d l∧ReD wr g2 d2 l0∧Below w.heap.size w wr) (fun i _=>xs.length-(intOf i).toNat)
   case atStart=>exact⟨0,l0,Nat.zero_le _,rfl,by omega,H3.out.2.1,H3.out.1,H3.out.2.2.1⟩
   case round=>
     obtain⟨k,l,hk,rfl,hl,hD,hD2,hb⟩:=hrel;by_cases hlt:k<xs.length
     ·have u1:(k:Int)<(xs.length:Int):=by omega
      have u2:(0:Int)≤(k:Int):=by omega
      obtain⟨x,hx⟩:∃x,xs[k]? = some x:=⟨_,List.getElem?_eq_getElem hlt⟩;obtain⟨ga,oa,hA,_,y0,y1,y2⟩:=GD (HC.out.keep hb (Nat.le_refl _)) hx rfl;have HB:=Lib.hid (And.intro hD (And.intro hD2 hb));have tb8:∀n,n≤l.length+60→n≤100+60*(k+1):=fun n h=>by omega
      have c1:=fun (hs:xd x=true) W (hW:ReD W g d l)=>apply14_m g d l x W hW (by omega) hs
      have HA:=Lib.hid c1;clear hD hD2 hb hx c1;subst hA;have key:(60:Int)<(x.d.length:Int)∨(¬(60:Int)<(x.d.length:Int)∧(60:Int)<(x.i.length:Int))∨(¬(60:Int)<(x.d.length:Int)∧¬(60:Int)<(x.i.length:Int)):=by omega
      rcases key with k5|⟨k5,k6⟩|⟨k5,k6⟩
      case inl=>
        go_wp2_with fail;go_ret;exact⟨rfl,HB.out.2.2⟩
      case inr.inl=>
        go_wp2_with fail;go_ret;exact⟨rfl,HB.out.2.2⟩
      case inr.inr=>
        have hs:xd x=true:=by unfold xd;rw[decide_eq_true (p:=x.d.length≤60) (by omega),decide_eq_true (p:=x.i.length≤60) (by omega)];rfl
        have HS:=Lib.hid hs;clear hs;go_wp2_with (
          (go_at_call 15;with_reducible refine(HA.out HS.out _ HB.out.1).mono ?_
           rintro e w5 ⟨rfl,hD,hln,hx⟩;have hl8:=tb8 _ hln;have H5:=Lib.hid (And.intro hD (And.intro (HB.out.2.1.other HB.out.1 hx hne.1.symm hne.2.symm) (GrD14.below HB.out.2.2 hx HB.out.2.2.size H2.out.1.1 H2.out.1.2)));clear hD hx hln))
        exact⟨⟨k+1,_,by omega,by go_num,hl8,H5.out.1,H5.out.2.1,H5.out.2.2⟩,by simp[intOf]<;>omega⟩
     ·obtain rfl:k=xs.length:=by omega
      have hl9:l.length≤460:=by omega
      obtain⟨N,ts,L,hdc⟩:=hiC l (by omega);have HD:=Lib.hid hdc;have y0:wr.cell? ⟨g,0,none⟩=some (.pointer (some ⟨d,0,none⟩)):=by obtain⟨_,_,k9,_⟩:=hD.ex;rw[k9.cell];rfl
      have HB:=Lib.hid (And.intro hD (And.intro hD2 hb));clear hb hD hD2 hdc
      go_upto_region 16 with (first
        | (go_at_call 17;with_reducible refine(HD.out.tx d _ HB.out.1.doc).mono ?_
           rintro e w6 ⟨rfl,rfl⟩)
        | (go_at_call 21;with_reducible refine(Gs l0 l _ (by omega) (by omega)).mono ?_
           rintro e w7 ⟨p,x,y,c2,hp1,hp2,rfl,hb7⟩;have H7:=Lib.hid (And.intro (HB.out.1.next hb7) (And.intro (HB.out.2.1.next hb7) (And.intro (HB.out.2.2.trans (hb7.mono HB.out.2.2.size)) (And.intro hp1 hp2))));clear hb7 hp1 hp2)
        | (go_at_call 15;have c5:=apply14_d g2 d2 p x y c2 w7 (by rw[←H7.out.2.2.2.1];exact H7.out.2.1) (by rw[←H7.out.2.2.2.1];omega) (by rw[←H7.out.2.2.2.2];omega);rw[←H7.out.2.2.2.2] at c5;refine c5.mono ?_;rintro e w8 ⟨kk,rfl,hD,hx⟩;have H8:=Lib.hid (And.intro (H7.out.1.other H7.out.2.1 hx hne.1 hne.2) (And.intro hD (GrD14.below H7.out.2.2.1 hx H7.out.2.2.1.size H3.out.2.2.2.1 H3.out.2.2.2.2)));clear c5 hD hx)
        | fail)
      have y0:w8.cell? ⟨g,0,none⟩=some (.pointer (some ⟨d,0,none⟩)):=by obtain⟨_,_,k9,_⟩:=H8.out.1.ex;rw[k9.cell];rfl
      have y1:w8.cell? ⟨g2,0,none⟩=some (.pointer (some ⟨d2,0,none⟩)):=by obtain⟨_,_,k9,_⟩:=H8.out.2.1.ex;rw[k9.cell];rfl
      go_region_held3 (fun w'=>w'.cell? ⟨g,0,none⟩=some (.pointer (some ⟨d,0,none⟩))∧w'.cell? ⟨g2,0,none⟩=some (.pointer (some ⟨d2,0,none⟩)))
       (first|with_reducible exact⟨y0,y1⟩|exact⟨y0,y1⟩)
       (first
        | (go_at_call 17
           first
             | with_reducible refine(HD.out.tx d _ (H8.out.1.next (Below.refl _ w8).drew).doc).mono ?_
             | with_reducible refine(HD.out.tx d2 _ (H8.out.2.1.next (Below.refl _ w8).drew).doc).mono ?_
           rintro e w9 ⟨rfl,rfl⟩)
        | (go_at_call 14
           first
             | (with_reducible refine(HD.out.tre g d _ (H8.out.1.next (Below.refl _ w8).drew)).mono ?_
                rintro e w9 ⟨v,rfl,ho,hb0⟩;obtain⟨A6,n6,c6,rfl⟩:=az ho;obtain rfl:=bN ho;have hb:=(Below.refl _ w8).drew.trans hb0;have y0:=wj hb y0;have y1:=wj hb y1;have H9:=Lib.hid (And.intro (H8.out.1.next hb) (And.intro (H8.out.2.1.next hb) (And.intro (H8.out.2.2.trans (hb.mono H8.out.2.2.size)) ho)));clear ho hb hb0)
             | (with_reducible refine(HD.out.tre g2 d2 _ H9.out.2.1).mono ?_
                rintro e w10 ⟨v,rfl,ho,hb⟩;obtain⟨A7,n7,c7,rfl⟩:=az ho;obtain rfl:=bN ho;have y0:=wj hb y0;have y1:=wj hb y1;have H10:=Lib.hid (And.intro (H9.out.1.next hb) (And.intro (H9.out.2.1.next hb) (And.intro (H9.out.2.2.1.trans (hb.mono H9.out.2.2.1.size)) (And.intro (Rd.of_own (aN H9.out.2.2.2 hb)) (Rd.of_own ho)))));clear ho hb))
        | (go_at_call 11;refine(HD.out.sm _ _ _ _ _ H10.out.2.2.2.1 H10.out.2.2.2.2).mono ?_;rintro e w11 ⟨rfl,hb⟩;have y0:=wj hb y0;have y1:=wj hb y1;have H11:=Lib.hid (And.intro (H10.out.1.next hb) (And.intro (H10.out.2.1.next hb) (H10.out.2.2.1.trans (hb.mono H10.out.2.2.1.size))));clear hb)
        | (go_at_call 23
           first
             | (with_reducible refine(HD.out.tk d _ H11.out.1.doc).mono ?_
                rintro e w12 ⟨v,rfl,ho,hb⟩;obtain⟨A8,n8,c8,rfl⟩:=az ho;obtain rfl:=bN ho;have y0:=wj hb y0;have y1:=wj hb y1;have H12:=Lib.hid (And.intro (H11.out.2.1.next hb) (And.intro (H11.out.2.2.trans (hb.mono H11.out.2.2.size)) ho));clear ho hb)
             | (with_reducible refine(HD.out.tk d2 _ H12.out.1.doc).mono ?_
                rintro e w13 ⟨v,rfl,ho,hb⟩;obtain⟨A9,n9,c9,rfl⟩:=az ho;obtain rfl:=bN ho;have y0:=wj hb y0;have y1:=wj hb y1;have H13:=Lib.hid (And.intro (H12.out.2.1.trans (hb.mono H12.out.2.1.size)) (And.intro (Rd.of_own (aN H12.out.2.2 hb)) (Rd.of_own ho)));clear ho hb))
        | (go_at_call 22;refine(HD.out.st _ _ _ _ _ H13.out.2.1 H13.out.2.2).mono ?_;rintro e w14 ⟨rfl,hb⟩;have y0:=wj hb y0;have y1:=wj hb y1;have H14:=Lib.hid (H13.out.1.trans (hb.mono H13.out.1.size));clear hb))
      go_wp2_with fail;go_ret;exact⟨rfl,H14.out⟩
end Go.Proofs.YtfagdpfgifgnoaaGreatDoor
