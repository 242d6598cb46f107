/- The parser's plain law: of two rows of leaves whose signs, words, names and assignments are the same the trees are the same. No program is in sight. PRINTED by gen_cg24.py. -/
import Derived.Test.YtgdifhhioahakaaGreatDoorPl13
namespace Go.Proofs.YtgdifhhioahakaaGreatDoor
set_option linter.unusedVariables false
set_option linter.unusedSimpArgs false
set_option maxRecDepth 100000
structure Lk (F G:List Lf):Prop where
  len:F.length=G.length
  sg:∀i,sg F i=sg G i
  w:∀i,isW F i=isW G i
  a:∀i,asgT (tx F i)=asgT (tx G i)
  n:∀i,nameT (tx F i)=nameT (tx G i)
section
variable {F G:List Lf} (h:Lk F G)
include h
theorem lk_comes:comes F=comes G:=by funext cs s;unfold comes;rw[h.sg]
theorem lk_take:takeP F=takeP G:=by unfold takeP;simp only[lk_comes h]
theorem lk_want:wantP F=wantP G:=by unfold wantP;simp only[lk_comes h]
theorem lk_word:wordP F=wordP G:=by unfold wordP;simp only[h.w]
theorem lk_lines:linesP F=linesP G:=by unfold linesP;simp only[lk_comes h,h.len]
theorem lk_redirB:redirB F=redirB G:=by unfold redirB;simp only[h.sg]
theorem lk_compB:compB F=compB G:=by unfold compB;simp only[lk_comes h]
theorem lk_cmdB:cmdB F=cmdB G:=by unfold cmdB;simp only[lk_redirB h,lk_compB h,h.sg]
theorem lk_pipeB:pipeB F=pipeB G:=by unfold pipeB;simp only[lk_cmdB h,h.sg]
theorem lk_funB:funB F=funB G:=by unfold funB;simp only[h.sg,h.n]
theorem lk_redir:redirP F=redirP G:=by unfold redirP;simp only[lk_take h,lk_word h]
theorem lk_redirs:redirsP F=redirsP G:=by unfold redirsP;simp only[lk_redirB h,lk_redir h,h.len]
theorem lk_simp1:simp1P F=simp1P G:=by unfold simp1P;simp only[lk_redirB h,lk_redir h,h.len,h.w]
theorem lk_simp:simpP F=simpP G:=by unfold simpP;simp only[lk_redirB h,lk_redir h,lk_simp1 h,h.len,h.w,h.a]
theorem lk_body:bodyP F=bodyP G:=by unfold bodyP;simp only[lk_lines h,lk_pipeB h]
theorem lk_bran:branP F=branP G:=by unfold branP;simp only[lk_comes h,lk_want h,lk_body h,h.len]
theorem lk_do:doP F=doP G:=by unfold doP;simp only[lk_want h,lk_body h]
theorem lk_words:wordsP F=wordsP G:=by unfold wordsP;simp only[h.len,h.w]
theorem lk_in:inP F=inP G:=by unfold inP;simp only[lk_comes h,lk_lines h,lk_words h]
theorem lk_each:eachP F=eachP G:=by unfold eachP;simp only[lk_comes h,lk_lines h,lk_in h,lk_do h,h.w,h.n]
theorem lk_item:itemP F=itemP G:=by unfold itemP;simp only[lk_comes h,lk_take h,lk_word h,lk_want h,lk_lines h,lk_pipeB h,h.len]
theorem lk_itemB:itemB F=itemB G:=by unfold itemB;simp only[h.sg,h.w]
theorem lk_cases:casesP F=casesP G:=by unfold casesP;simp only[lk_comes h,lk_word h,lk_lines h,lk_want h,lk_item h,lk_itemB h,h.len]
theorem lk_ins:insP F=insP G:=by unfold insP;simp only[lk_want h,lk_body h,lk_bran h,lk_do h,lk_each h,lk_cases h]
theorem lk_comp:compP F=compP G:=by unfold compP;simp only[lk_redirs h,lk_ins h,h.sg]
theorem lk_def:defP F=defP G:=by unfold defP;simp only[lk_word h,lk_take h,lk_want h,lk_lines h,lk_compB h,lk_comp h]
theorem lk_com:comP F=comP G:=by unfold comP;simp only[lk_compB h,lk_comp h,lk_funB h,lk_def h,lk_cmdB h,lk_simp h]
theorem lk_pipIn:pipInP F=pipInP G:=by unfold pipInP;simp only[lk_comes h,lk_com h,lk_lines h,lk_take h,h.len]
theorem lk_pip:pipP F=pipP G:=by unfold pipP;simp only[lk_pipeB h,lk_pipIn h]
theorem lk_and:andP F=andP G:=by unfold andP;simp only[lk_comes h,lk_pip h,lk_lines h,h.len]
theorem lk_sep:sepP F=sepP G:=by unfold sepP;simp only[lk_comes h,lk_lines h,lk_pipeB h]
theorem lk_lst:lstP F=lstP G:=by unfold lstP;simp only[lk_sep h,lk_and h,h.len]
theorem lk_lstF:∀n,lstF F n=lstF G n
  | 0=>rfl
  | n+1=>by unfold lstF;rw[lk_lst h,lk_lstF n]
theorem lk_prog:progP F=progP G:=by unfold progP progC;simp only[lk_comes h,lk_pipeB h,h.len]
theorem lk_parse:parseT F=parseT G:=by unfold parseT lstA;rw[h.len,lk_lstF h,lk_prog h]
end
end Go.Proofs.YtgdifhhioahakaaGreatDoor
