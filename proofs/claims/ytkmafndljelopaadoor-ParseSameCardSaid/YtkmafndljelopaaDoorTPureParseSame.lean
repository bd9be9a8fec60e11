/- ParseSame: two programs are the same just where their texts are (Rnd: a text's words are told from it, and read again they are the program). No condition beyond the row's own. -/
import Derived.Test.YtkmafndljelopaaDoorTTx6
import Derived.Test.YtkmafndljelopaaDoorTStm
import Derived.Test.YtkmafndljelopaaDoorTQ16
namespace Go.Proofs.YtkmafndljelopaaDoor.Pure
set_option linter.unusedSimpArgs false
set_option linter.unusedVariables false
open Go.RowKit Go.Proofs.YtkmafndljelopaaDoor.Q Go.Proofs.YtkmafndljelopaaDoor.Lx Go.Proofs.YtkmafndljelopaaDoorW.PrintWords Go.Proofs.YtkmafndljelopaaDoorW.PrintLast
theorem known6:deadboltlaw6_known.f=some true:=by decide+kernel
theorem ParseSame (a b c d:List Rw6) (t u:Int): ∃ k,deadboltlaw6_ParseSame.f k a b c d t u=some true:=by
 refine EvS.exists_ ?_
 obtain ⟨r,er,hr⟩:=All_ev a b c d;unfold deadboltlaw6_ParseSame.f
 refine EvS.bind1 known6 (EvS.if_pos rfl (EvS.bind er ?_));cases r with
 |false=>exact EvS.if_neg (by decide) (.some_ _)
 |true=>
  obtain ⟨⟨a1,a2⟩,⟨b1,b2⟩,⟨c1,c2⟩,⟨d1,d2⟩⟩:=hr rfl;have hp:Few4 a b [] []:=⟨a1,a2,b1,b2,by decide,by decide,by decide,by decide⟩;have hq:Few4 c d [] []:=⟨c1,c2,d1,d2,by decide,by decide,by decide,by decide⟩;refine EvS.if_pos rfl (EvS.bind (hp.Prog t) (EvS.bind (hq.Prog u) ?_));simp only
  have hT1:=hp.Text t;have hT2:=hq.Text u;have hself:sameP prV (prL t) (prF a b [] [] t) prV (prL t) (prF a b [] [] t)=true:=same_of_text prV_ok (prL_ok t) (hp.wfF t) prV_ok (prL_ok t) (hp.wfF t) rfl;have hiff:sameP prV (prL t) (prF a b [] [] t) prV (prL u) (prF c d [] [] u)=((⟨(textL prV (prL t) (prF a b [] [] t)).toArray⟩:ByteArray).toList==(⟨(textL prV (prL u) (prF c d [] [] u)).toArray⟩:ByteArray).toList):=by
   rw [ByteArray.toList_eq,ByteArray.toList_eq];show _=(textL prV (prL t) (prF a b [] [] t)==textL prV (prL u) (prF c d [] [] u))
   rw [Bool.eq_iff_iff,beq_iff_eq];exact ⟨text_of_same,same_of_text prV_ok (prL_ok t) (hp.wfF t) prV_ok (prL_ok u) (hq.wfF u)⟩
  have hs:parse_Same.f prV (prL t) (prF a b [] [] t) prV (prL u) (prF c d [] [] u)=some (sameP prV (prL t) (prF a b [] [] t) prV (prL u) (prF c d [] [] u)):=rfl;have hr:deadboltref6_Same.f prV (prL t) (prF a b [] [] t) prV (prL u) (prF c d [] [] u)=some (sameP prV (prL t) (prF a b [] [] t) prV (prL u) (prF c d [] [] u)):=by
   unfold deadboltref6_Same.f
   rw [if_pos];exact ⟨by decide,by unfold prL;split<;>decide⟩
  refine EvS.bind1 hs (EvS.bind1 hT1 (EvS.bind1 hT2 (EvS.if_pos (by rw [hiff];exact beq_self_eq_true _) (EvS.bind1 (a:=true) (by unfold parse_Same.f;rw [hself]) (EvS.if_pos rfl (EvS.bind1 hs (EvS.bind1 hr ?_)))))));simp only [beq_self_eq_true];exact .some_ _
end Go.Proofs.YtkmafndljelopaaDoor.Pure
