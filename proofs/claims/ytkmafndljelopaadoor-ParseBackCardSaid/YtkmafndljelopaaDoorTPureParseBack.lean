/- ParseBack: any program is written as the document says, and read as it was: its text is that of its words (Tx6), and read again it is the same (Rnd). No condition beyond the row's own. -/
import Derived.Test.YtkmafndljelopaaDoorTTx6
import Derived.Test.YtkmafndljelopaaDoorTStm
import Derived.Test.YtkmafndljelopaaDoorTQ13
namespace Go.Proofs.YtkmafndljelopaaDoor.Pure
set_option linter.unusedSimpArgs false
set_option linter.unusedVariables false
open Go.RowKit Go.Proofs.YtkmafndljelopaaDoor.Q Go.Proofs.YtkmafndljelopaaDoor.Lx Go.Proofs.YtkmafndljelopaaDoorW.PrintWords Go.Proofs.YtkmafndljelopaaDoorW.PrintLast
theorem known6:deadboltlaw6_known.f=some true:=by decide+kernel
theorem bodyB_ev (n:ByteArray) (a:Int) (b:List St6) (hk:lsK b=true) (hb:(lsW b).length≤1000000) (hl:(bodyL b).length≤1000000000):EvS (fun k=>parse_Body.f k n a b) ⟨(bodyL b).toArray⟩:=by
 unfold parse_Body.f
 refine EvS.bind (words_ev b hk (by omega)) ?_
 refine EvS.bind1 (a:=⟨(bodyL b).toArray⟩) ?_ (.some_ _)
 unfold strings_Join.f
 rw [if_pos];·rfl
 ·refine ⟨by simp only [blW,List.length_cons,List.length_append,List.length_nil];omega,?_⟩;show (bodyL b).length≤_
  omega
theorem ParseBack (a b c d:List Rw6) (t:Int): ∃ k,deadboltlaw6_ParseBack.f k a b c d t=some true:=by
 refine EvS.exists_ ?_
 obtain ⟨r,er,hr⟩:=All_ev a b c d;unfold deadboltlaw6_ParseBack.f
 refine EvS.bind1 known6 (EvS.if_pos rfl (EvS.bind er ?_));cases r with
 |false=>exact EvS.if_neg (by decide) (.some_ _)
 |true=>
  obtain ⟨⟨a1,a2⟩,⟨b1,b2⟩,⟨c1,c2⟩,⟨d1,d2⟩⟩:=hr rfl;have h:Few4 a b c d:=⟨a1,a2,b1,b2,c1,c2,d1,d2⟩;refine EvS.if_pos rfl (EvS.bind (h.Prog t) (EvS.bind1 (h.Text t) (EvS.bind (h.rText t) (EvS.if_pos rfl ?_))));simp only
  have hfl:(prF a b c d t).length=4:=by unfold prF;split<;>rfl
  have H: ∀ (m i:Nat),(prF a b c d t).length - i=m→i≤(prF a b c d t).length→
    EvS (fun k=>deadboltlaw6_ParseBack.l0 k ⟨(textL prV (prL t) (prF a b c d t)).toArray⟩ (i:Int) prV (prL t) (prF a b c d t)) true:=by
   intro m;induction m with
   |zero=>
    intro i hm hi;obtain rfl:i=(prF a b c d t).length:=by omega
    refine EvS.succ ?_
    simp only [deadboltlaw6_ParseBack.l0];refine EvS.if_neg (by omega) ?_
    by_cases hs:(⟨(textL prV (prL t) (prF a b c d t)).toArray⟩:ByteArray).size>2000
    ·refine EvS.bind1 (parse_long hs) (EvS.if_pos (by omega) (EvS.if_pos rfl (.some_ _)))
    ·obtain ⟨vs',ls',fs',h1,h2⟩:=parse_text prV_ok (prL_ok t) (h.wfF t) (by have:=hs;simp only [gt_iff_lt,Nat.not_lt] at this;exact this);refine EvS.bind1 h1 (EvS.if_neg (by omega) (EvS.if_pos rfl (EvS.if_pos rfl (EvS.bind1 (a:=true) (by unfold parse_Same.f;rw [h2]) (EvS.if_pos rfl (EvS.bind1 (a:=true) ?_ (.some_ _)))))));unfold deadboltref6_Same.f
     rw [if_pos,h2];exact ⟨by decide,by unfold prL;split<;>decide⟩
   |succ m ih=>
    intro i hm hi;have hlt:i<(prF a b c d t).length:=by omega
    obtain ⟨w1,w2,w3,w4⟩:=h.body t _ (List.getElem_mem hlt);refine EvS.succ ?_
    simp only [deadboltlaw6_ParseBack.l0];refine EvS.if_pos (by omega) (EvS.if_pos (by omega) ?_);rw [rd_func _ i hlt,w64_1 i (by omega)];exact EvS.bind (bodyB_ev _ _ _ (wf_lsK w1) (by omega) (by omega)) (EvS.bind (rBody_ev _ _ _ w1 (by omega)) (EvS.if_pos rfl (ih (i+1) (by omega) (by omega))))
  exact H _ 0 rfl (by omega)
end Go.Proofs.YtkmafndljelopaaDoor.Pure
