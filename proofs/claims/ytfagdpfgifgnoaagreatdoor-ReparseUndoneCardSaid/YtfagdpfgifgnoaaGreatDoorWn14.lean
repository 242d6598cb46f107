/- The last step of a law: the call answered true and kept all that was there; so the row's post holds. -/
import Derived.Test.YtfagdpfgifgnoaaGreatDoorRows
import Derived.Test.YtfagdpfgifgnoaaGreatDoorDp14
import Derived.Test.YtfagdpfgifgnoaaGreatDoorSt13
import Derived.Test.YtfagdpfgifgnoaaGreatDoorFr10
import Derived.WalkKit
import Derived.ProofKit
import Derived.OpenShut
import Derived.ShutString
import Derived.Below
import Derived.ChangeSame
set_option linter.unusedVariables false
set_option linter.unusedSimpArgs false
set_option maxRecDepth 100000
set_option maxHeartbeats 8000000
namespace Go.Proofs.YtfagdpfgifgnoaaGreatDoor
section
open Go.ChangeShapes Go.WideShapes Go.ChangeAt Go.RowKit
theorem Fj {H:Type} {enc:TypeId×Value→H} {f:Func} {s:ChangeSpec} {apart fresh handsOn again:Bool} {W W':World} {args:Array Value} {ds:List (DataW H)} {pl:List MemPlace}
    (hW:DataW.Whole enc Tryz.prog f.params.toList s.vars apart W args.toList ds [] pl) (hb:Below W.heap.size W W') (hv:s.vars=[])
    (hfn:s.fn H (ds++[])={results:=[.lit (.bool true)],args:=ds,vars:=[]}) (hres:f.resultTypes=#[4])
    (hargs:∀sp:Nat→Bool,(∀p∈pl,sp p.block=true)→DataW.TrodAll enc Tryz.prog W' 0 sp true f.params.toList args.toList ds pl) :
    s.post enc Tryz.prog f apart fresh handsOn again W args (.bool true) W':=by
  have old:∀p∈pl,p.block<W.heap.size:=fun p hp=>hW.lt p hp
  have hR:∀(b:Nat) (sp:Nat→Bool) (hd:Bool),DataW.TrodAll enc Tryz.prog W' b sp hd f.resultTypes.toList ((Value.bool true).resultList f.resultTypes.size) (s.fn H (ds++[])).results []:=by
    intro b sp hd;rw[hres,hfn];exact trodAll_cons_mk (shut_bool Tryz.underlying4 _) trodAll_mk0
  have hA:∀sp:Nat→Bool,(∀p∈pl,sp p.block=true)→DataW.TrodAll enc Tryz.prog W' 0 sp true f.params.toList args.toList (s.fn H (ds++[])).args pl:=by
    intro sp h;rw[hfn];exact hargs sp h
  have hV:∀sp:Nat→Bool,DataW.TrodVars enc Tryz.prog W' sp s.vars (s.fn H (ds++[])).vars []:=by
    intro sp;rw[hfn,hv];rfl
  refine⟨ds,[],pl,[],pl,[],hW,hR _ _ _,hA _ (fun p hp=>by simpa using old p hp),hV _,World.keptBut_mono (fun p hp=>⟨hp,?_⟩) (hb.frame (· ∈ pl)),fun _=>?_⟩
  ·simpa using hp
  ·obtain⟨_,_,_,_,_,hz,hn⟩:=hW;refine⟨?_,_,_,pl++[],⟨[]++pl,[],trodAll_append (hA _ (fun _ _=>rfl)) (hR _ _ _),hV _,by simp,?_,?_⟩,?_⟩
   ·exact ok_one (by rw[hres]) rfl (okWide_bool_mk Tryz.underlying4 _)
   ·intro b off hp;have hin:MemPlace.cell b off∈pl:=by simpa using hp
    rw[hb.frozen (old _ hin)];exact hz b off hin
   ·intro ha;simpa using hn ha
   ·intro p hp _;simpa using hp
end
end Go.Proofs.YtfagdpfgifgnoaaGreatDoor
namespace Go.Proofs.YtfagdpfgifgnoaaGreatDoor
open Go.RowKit
set_option linter.unusedVariables false
set_option linter.unusedSimpArgs false
set_option maxRecDepth 100000
structure UnR (w:World) (g d:Nat) (l:List UInt8) (x:Ez) (L:List Nd) (v:Value) (W:World):Prop where
  doc:ReD W g d l
  be:Bk W w.heap.size 33 #[.int .i64 x.a,.string ⟨x.d.toArray⟩,.string ⟨x.i.toArray⟩]
  row:W.ownsRow w.heap.size 49 4 v L.length (dt L)
  hb:Below w.heap.size w W
theorem UnR.below {w:World} {g d:Nat} {l:List UInt8} {x:Ez} {L:List Nd} {v:Value} {W W':World} (h:UnR w g d l x L v W) (hb:Below W.heap.size W W'):UnR w g d l x L v W':=
  ⟨h.doc.next hb,h.be.below hb h.be.lt,aN h.row hb,h.hb.trans (hb.mono h.hb.size)⟩
theorem UnR.apply {w:World} {g d:Nat} {l l':List UInt8} {x:Ez} {L:List Nd} {v:Value} {W W':World} (h:UnR w g d l x L v W) (hgw:w.heap.size≤g) (hdw:w.heap.size≤d) (hx:GrD14 g d W W') (hD:ReD W' g d l'):UnR w g d l' x L v W':=by
  obtain⟨fv,tvv,h1,_⟩:=h.doc.ex;obtain⟨_,_,_,_,k2,_⟩:=h.doc.doc;have n1:w.heap.size≠g:=fm h.be h1 (by decide);have n2:w.heap.size≠d:=fm h.be k2.bk (by decide);exact⟨hD,(hx.block _ h.be.lt (by rintro (e|e)<;>omega)).trans h.be,DJ h.row hx (fun k hk=>by
    rintro (rfl|rfl)
    ·exact aL h.row h1 (by decide) hk
    ·exact aL h.row k2.bk (by decide) hk),GrD14.below h.hb hx h.hb.size hgw hdw⟩
set_option maxHeartbeats 4000000 in
theorem reparseUndone_w (l0:List UInt8) (x:Ez) (w:World) (hm:l0.length≤9223372036854775807) :
    Calls Tryz.prog 4 #[.string ⟨l0.toArray⟩,.agg #[.int .i64 x.a,.string ⟨x.d.toArray⟩,.string ⟨x.i.toArray⟩]] w fun e w'=>e=.returned (.bool true)∧Below w.heap.size w w':=by
  have key:(100:Int)<(l0.length:Int)∨(¬(100:Int)<(l0.length:Int)∧(60:Int)<(x.d.length:Int))∨(¬(100:Int)<(l0.length:Int)∧¬(60:Int)<(x.d.length:Int)∧(60:Int)<(x.i.length:Int))∨(¬(100:Int)<(l0.length:Int)∧¬(60:Int)<(x.d.length:Int)∧¬(60:Int)<(x.i.length:Int)):=by omega
  rcases key with k1|⟨k1,k2⟩|⟨k1,k2,k3⟩|⟨k1,k2,k3⟩
  case' inr.inr.inr=>
    have hs:xd x=true:=by unfold xd;rw[decide_eq_true (p:=x.d.length≤60) (by omega),decide_eq_true (p:=x.i.length≤60) (by omega)];rfl
    have hl:l0.length≤100:=by omega
    obtain⟨ok,hok⟩:∃ok,ok=lE l0 x.d x.a:=⟨_,rfl⟩;have c1:∀g d W,ReD W g d l0→Calls Tryz.prog 15 #[.pointer (some ⟨g,0,none⟩),.agg #[.int .i64 x.a,.string ⟨x.d.toArray⟩,.string ⟨x.i.toArray⟩]] W fun e w'=>∃k:Int,e=.returned (.tuple #[.int .i64 k,.int .i64 (if ok=true then 0 else 1)])∧ReD w' g d (FZ l0 x)∧GrD14 g d W w':=fun g d W hW=>by
      refine(apply14_m g d l0 x W hW (by omega) hs).mono ?_;rintro e w' ⟨rfl,h1,_,h2⟩;rw[hok];exact⟨_,rfl,h1,h2⟩
    have c2:ok=true→∀g d W,ReD W g d (FZ l0 x)→Calls Tryz.prog 15 #[.pointer (some ⟨g,0,none⟩),.agg #[.int .i64 x.a,.string ⟨x.i.toArray⟩,.string ⟨x.d.toArray⟩]] W fun e w'=>∃k:Int,e=.returned (.tuple #[.int .i64 k,.int .i64 0])∧ReD w' g d l0∧GrD14 g d W w':=fun ho g d W hW=>by
      rw[hok] at ho;obtain⟨i1,i2⟩:=FU (i:=x.i) ho;have e1:FZ l0 x=mt l0 x.d x.i x.a:=by unfold FZ;rw[if_pos ho]
      have hs2:xd ⟨x.a,x.i,x.d,x.ha⟩=true:=by unfold xd at hs ⊢;rw[Bool.and_comm];exact hs
      have hln:(FZ l0 x).length≤160:=by
        obtain⟨ed,d1,d2,d3,d4,d5⟩:=tF ho x.i;rw[e1,←d2];have h6:ed.old.length≤100:=by rw[d1];exact hl
        have h7:ed.i.length≤60:=by rw[d5];omega
        unfold Ed.old at h6;unfold Ed.new;simp only[List.length_append] at h6 ⊢;omega
      refine(apply14_m g d (FZ l0 x) ⟨x.a,x.i,x.d,x.ha⟩ W hW (by omega) hs2).mono ?_;rintro e w' ⟨rfl,h1,_,h2⟩;replace h1:ReD w' g d (FZ (FZ l0 x) ⟨x.a,x.i,x.d,x.ha⟩):=h1;have e2:FZ (FZ l0 x) ⟨x.a,x.i,x.d,x.ha⟩=l0:=by
        rw[e1];unfold FZ;rw[if_pos i1];exact i2
      rw[e2] at h1;have e3:lE (FZ l0 x) x.i x.a=true:=by rw[e1];exact i1
      exact⟨_,by show Ending.returned (.tuple #[_,.int .i64 (if lE (FZ l0 x) x.i x.a=true then 0 else 1)])=_;rw[if_pos e3],h1,h2⟩
    have c3:ok=false→FZ l0 x=l0:=fun ho=>by unfold FZ;rw[if_neg (by rw[←hok,ho];decide)]
    have c4:∀W,Calls Tryz.prog 16 #[.agg #[.int .i64 x.a,.string ⟨x.d.toArray⟩,.string ⟨x.i.toArray⟩]] W fun e w'=>e=.returned (.agg #[.int .i64 x.a,.string ⟨x.i.toArray⟩,.string ⟨x.d.toArray⟩])∧Below W.heap.size W w':=fun W=>GC x.d x.i x.a W
    have c5:=fun g d W (h:ReD W g d l0)=>tree14_m g d l0 W h (by omega)
    have hpl:=par_len (lvs14 l0);have hfb:=(lvs14_fb l0 (by omega)).n;have c6:=fun (A A':Option Addr) (c c':Nat) (W:World)=>Dx (cE (lvs14 l0)).l A A' c c' W (by omega)
    have c7:=new14_m l0;obtain⟨L,hL⟩:∃L,L=(cE (lvs14 l0)).l:=⟨_,rfl⟩;rw[←hL] at c5 c6;have HC:=Lib.hid (And.intro c1 (And.intro c2 (And.intro c3 c4)));have HD:=Lib.hid (And.intro c5 (And.intro c6 c7));clear c1 c2 c3 c4 c5 c6 c7 hok hL hpl hfb
  all_goals go_enter Tryz.func4,Tryz.ntmps4
  case' inr.inr.inr=>
    go_upto_region 9 with (first
      | (go_at_call 14;with_reducible refine(HD.out.1 _ _ _ H2.out.1).mono ?_
         rintro e w3 ⟨v,rfl,ho,hb⟩;obtain⟨A,n,c,rfl⟩:=az ho;obtain rfl:=bN ho;have H3:=Lib.hid (show UnR w g d l0 x L _ w3 from ⟨H2.out.1.next hb,H2.out.2.1.below hb H2.out.2.1.lt,ez (B':=w.heap.size) ho H2.out.2.2.size,H2.out.2.2.trans (hb.mono H2.out.2.2.size)⟩);obtain⟨q0,q1,q2,_⟩:=H3.out.be.three;clear ho hb)
      | (go_at_call 13;refine(HD.out.2.2 _ (by omega)).mono ?_;rintro e w2 ⟨g,d,rfl,hg,hd,hD,hb⟩;have hgw:w.heap.size≤g:=Nat.le_trans H1.out.2.size hg;have hdw:w.heap.size≤d:=Nat.le_trans H1.out.2.size hd;have H2:=Lib.hid (And.intro hD (And.intro (H1.out.1.below hb H1.out.1.lt) (H1.out.2.trans (hb.mono H1.out.2.size))));clear hg hd hD hb)
      | (go_at_call 7;refine(awake14_c _).mono ?_;rintro e w1 ⟨rfl,hb⟩;have kb:=(Bk.new w 33 #[.int .i64 x.a,.string ⟨x.d.toArray⟩,.string ⟨x.i.toArray⟩]).below hb (by simp);obtain⟨q0,q1,q2,_⟩:=kb.three;have H1:=Lib.hid (And.intro kb (((Below.refl _ w).alloc (Nat.le_refl _) _).trans (hb.mono (by simp))));clear kb hb)
      | fail)
    cases ok
    case' false=>
      have hc3:=HC.out.2.2.1 (by first|trivial|rfl);go_upto_region 14 with (
        (go_at_call 15;with_reducible refine(HC.out.1 _ _ _ H3.out.doc).mono ?_
         rintro e w9 ⟨k,rfl,hD,hx⟩;rw[hc3] at hD;have H9:=Lib.hid (H3.out.apply hgw hdw hx hD);clear hD hx))
    case' true=>
      go_upto_region 14 with (first
        | (go_at_call 16;with_reducible refine(HC.out.2.2.2 _).mono ?_
           rintro e w5 ⟨rfl,hb⟩;have H5:=Lib.hid (H4.out.below hb);clear hb)
        | (go_at_call 15
           first
             | (with_reducible refine(HC.out.2.1 (by first|trivial|rfl) _ _ _ H5.out.doc).mono ?_
                rintro e w9 ⟨k2,rfl,hD,hx⟩;have H9:=Lib.hid (H5.out.apply hgw hdw hx hD);clear hD hx)
             | (with_reducible refine(HC.out.1 _ _ _ H3.out.doc).mono ?_
                rintro e w4 ⟨k,rfl,hD,hx⟩;have H4:=Lib.hid (H3.out.apply hgw hdw hx hD);obtain⟨q0,q1,q2,_⟩:=H4.out.be.three;clear hD hx))
        | fail)
    all_goals (
      have hb9:=H9.out.hb;obtain⟨fv9,tv9,k9,_⟩:=H9.out.doc.ex;have y0:w9.cell? ⟨g,0,none⟩=some (.pointer (some ⟨d,0,none⟩)):=by rw[k9.cell];rfl
      clear q0 q1 q2 k9 hb9
      go_wp2_with (first
        | (go_at_call 11;with_reducible refine(HD.out.2.1 _ _ _ _ _ (Rd.of_own H11.out.1) (Rd.of_own (aN H9.out.row H11.out.2))).mono ?_
           rintro e w12 ⟨rfl,hb5⟩;have H12:=Lib.hid (H11.out.2.trans (hb5.mono H11.out.2.size));clear hb5)
        | (go_at_call 14;with_reducible refine(HD.out.1 _ _ _ H9.out.doc).mono ?_
           rintro e w11 ⟨v5,rfl,ho5,hb5⟩;obtain⟨A5,n5,c5,rfl⟩:=az ho5;obtain rfl:=bN ho5;have H11:=Lib.hid (And.intro ho5 hb5);clear ho5 hb5)
        | (go_at_call 17;with_reducible refine(F1 _ l0 _ H9.out.doc.doc).mono ?_
           rintro e w10 ⟨rfl,rfl⟩)
        | fail)
      go_ret;exact⟨rfl,H9.out.hb.trans (H12.out.mono H9.out.hb.size)⟩)
  all_goals (
    go_wp2_with (
      (go_at_call 7;refine(awake14_c _).mono ?_;rintro e w1 ⟨rfl,hb⟩;have kb:=(Bk.new w 33 #[.int .i64 x.a,.string ⟨x.d.toArray⟩,.string ⟨x.i.toArray⟩]).below hb (by simp);obtain⟨q0,q1,q2,_⟩:=kb.three;have H1:=Lib.hid (((Below.refl _ w).alloc (Nat.le_refl _) _).trans (hb.mono (by simp)));clear kb hb))
    go_ret;exact⟨rfl,H1.out⟩)
end Go.Proofs.YtfagdpfgifgnoaaGreatDoor
