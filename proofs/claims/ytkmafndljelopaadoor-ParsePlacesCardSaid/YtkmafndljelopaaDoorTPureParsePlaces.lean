/- ParsePlaces: of a program that was read from its text each function, each statement begins where its word stands (Plc). No condition beyond the row's own. -/
import Derived.Test.YtkmafndljelopaaDoorTPlc
import Derived.Test.YtkmafndljelopaaDoorTQ15
namespace Go.Proofs.YtkmafndljelopaaDoor.Pure
set_option linter.unusedSimpArgs false
set_option linter.unusedVariables false
open Go.RowKit Go.Proofs.YtkmafndljelopaaDoor.Q Go.Proofs.YtkmafndljelopaaDoor.Lx Go.Proofs.YtkmafndljelopaaDoorW.PrintWords Go.Proofs.YtkmafndljelopaaDoorW.PrintLast
theorem known6:deadboltlaw6_known.f=some true:=by decide+kernel
theorem places_l0 (s:ByteArray) (hs:s.size≤2000) (vs ls:List De6) (fs:List Fn6) (hf: ∀ f∈fs,FOk s f) (hl:fs.length≤1000):EvS (fun k=>deadboltlaw6_ParsePlaces.l0 k s 0 vs ls fs) true:=by
 have H: ∀ (m i:Nat),fs.length - i=m→i≤fs.length→EvS (fun k=>deadboltlaw6_ParsePlaces.l0 k s (i:Int) vs ls fs) true:=by
  intro m;induction m with
  |zero=>
   intro i hm hi;refine EvS.succ ?_
   simp only [deadboltlaw6_ParsePlaces.l0];exact EvS.if_neg (by omega) (.some_ _)
  |succ m ih=>
   intro i hm hi;have hlt:i<fs.length:=by omega
   obtain ⟨⟨⟨a0,a1⟩,a2,a3⟩,a4,a5⟩:=hf _ (List.getElem_mem hlt);have hfw:(funcT++spB)=(⟨#[102,117,110,99,32]⟩:ByteArray):=by decide
   rw [hfw] at a2 a3;have e5:(⟨#[102,117,110,99,32]⟩:ByteArray).size=5:=rfl;have hsz:((⟨#[102,117,110,99,32]⟩:ByteArray)++fs[i].f0).size≤17:=by rw [ByteArray.size_append];omega
   have hi6:i≤1000000:=by omega
   have hst:deadboltlaw6_stands.f s fs[i].f2=some true:=by
    unfold deadboltlaw6_stands.f
    rw [if_pos ((stLb_iff s fs[i].f2).2 a5)]
   refine EvS.succ ?_
   simp only [deadboltlaw6_ParsePlaces.l0];refine EvS.if_pos (by omega) (EvS.if_pos (by omega) ?_);rw [rd_func fs i hlt];refine EvS.if_pos (by omega) (EvS.if_neg (by omega) ?_);rw [w64 (n:=fs[i].f1+(((⟨#[102,117,110,99,32]⟩:ByteArray)++fs[i].f0).size:Int)) (by omega),w64_1 i hi6];exact EvS.if_neg (by omega) (EvS.if_pos a0 (EvS.if_pos (by omega) (EvS.if_pos a2 (EvS.if_pos a3 (EvS.bind1 hst (EvS.if_pos rfl (ih (i+1) (by omega) (by omega))))))))
 exact H _ 0 rfl (by omega)
theorem sameP_len {v1 l1 v2 l2:List De6} {f1 f2:List Fn6} (h:sameP v1 l1 f1 v2 l2 f2=true):f1.length=f2.length:=by
 simp only [sameP,Bool.and_eq_true] at h;by_cases hl:f1.length=f2.length
 ·exact hl
 ·have:=eqAll_len (eq:=sameF) hl;rw [this] at h;exact absurd h.2.2 (by decide)
theorem ParsePlaces (a b:List Rw6): ∃ k,deadboltlaw6_ParsePlaces.f k a b=some true:=by
 refine EvS.exists_ ?_
 obtain ⟨ra,ea,ha⟩:=Few_ev a;obtain ⟨rb,eb,hb⟩:=Few_ev b;have out:EvS (fun k=>deadboltlaw6_ParsePlaces.j0 k a b true) true:=by
  refine EvS.succ ?_
  simp only [deadboltlaw6_ParsePlaces.j0];exact EvS.if_pos (by trivial) (.some_ _)
 unfold deadboltlaw6_ParsePlaces.f
 refine EvS.bind1 known6 (EvS.if_pos rfl (EvS.bind ea ?_));cases ra with
 |false=>exact EvS.if_neg (by decide) out
 |true=>
  refine EvS.if_pos rfl (EvS.bind eb ?_);cases rb with
  |false=>exact out
  |true=>
   obtain ⟨a1,a2⟩:=ha rfl;obtain ⟨b1,b2⟩:=hb rfl;have h:Few4 a b [] []:=⟨a1,a2,b1,b2,by decide,by decide,by decide,by decide⟩;refine EvS.succ ?_
   simp only [deadboltlaw6_ParsePlaces.j0];refine EvS.if_neg (by decide) (EvS.bind (h.Prog 1) (EvS.bind (h.rText 1) ?_));by_cases hs:(⟨(textL prV (prL 1) (prF a b [] [] 1)).toArray⟩:ByteArray).size>2000
   ·refine EvS.bind1 (parse_long hs) (EvS.if_pos (by omega) ?_);exact .some_ _
   ·have hs':(textL prV (prL 1) (prF a b [] [] 1)).length≤2000:=by
     have h1: ¬ (textL prV (prL 1) (prF a b [] [] 1)).length>2000:=hs;omega
    obtain ⟨vs',ls',fs',h1,h2,h3⟩:=parse_at prV_ok (prL_ok 1) (h.wfF 1) hs';have hlen:fs'.length=4:=(sameP_len h2).symm.trans rfl;refine EvS.bind1 h1 (EvS.if_neg (by omega) (EvS.if_pos rfl (EvS.succ ?_)));simp only [deadboltlaw6_ParsePlaces.j1];refine EvS.if_neg (by rw [hlen];decide) ?_
    exact places_l0 ⟨(textL prV (prL 1) (prF a b [] [] 1)).toArray⟩ hs' vs' ls' fs' h3 (by omega)
end Go.Proofs.YtkmafndljelopaaDoor.Pure
