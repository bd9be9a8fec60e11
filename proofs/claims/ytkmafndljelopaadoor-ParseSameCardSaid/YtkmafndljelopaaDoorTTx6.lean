/- Chapter 6's Text and Body, in plain words: they are the program's own. -/
import Derived.Test.YtkmafndljelopaaDoorTBlk
import Derived.Test.YtkmafndljelopaaDoorTQ6
import Derived.Test.YtkmafndljelopaaDoorTQ5
namespace Go.Proofs.YtkmafndljelopaaDoor.Q
open Go.RowKit Go.Proofs.YtkmafndljelopaaDoorW.PrintWords Go.Proofs.YtkmafndljelopaaDoorW.PrintLast Go.Proofs.YtkmafndljelopaaDoorW.PrintMore Go.Proofs.YtkmafndljelopaaDoor.Lx
set_option linter.unusedVariables false
set_option linter.unusedSimpArgs false
theorem join_snoc: ∀ (ws:List ByteArray) (z:ByteArray),Lib.join ((ws++ [z]).map (·.data.toList)) [32]=spT ws++z.data.toList
 |[],z=>by simp [Lib.join,List.intercalate,spT]
 |[w],z=>by
  simp only [List.cons_append,List.nil_append,List.map_cons,List.map_nil];rw [join_cons2,spT_cons];simp [Lib.join,List.intercalate,spT]
 |w::v::r,z=>by
  have ih:=join_snoc (v::r) z;simp only [List.cons_append,List.map_cons] at ih ⊢;rw [join_cons2,ih,spT_cons w];simp
theorem bodyL_eq (l:List St6):bodyL l= [123,32]++(spT (lsW l)++ [125]):=by
 unfold bodyL blW
 rw [← List.cons_append,join_snoc,spT_cons];rfl
theorem wf_kind {s:St6} (hw:wfS s=true):1≤s.f0∧s.f0≤8:=by
 obtain ⟨k,a,nm,A,B⟩:=s;simp only [wfS] at hw;show 1≤k∧k≤8
 by_cases h8:k=8
 ·omega
 ·rw [if_neg h8] at hw;by_cases h7:k=7
  ·omega
  ·rw [if_neg h7] at hw;simp only [Bool.and_eq_true,decide_eq_true_eq] at hw;omega
theorem wf_in {s:St6} (hw:wfS s=true):wfL s.f3=true∧wfL s.f4=true:=by
 obtain ⟨k,a,nm,A,B⟩:=s;simp only [wfS] at hw;show wfL A=true∧wfL B=true
 by_cases h8:k=8
 ·rw [if_pos h8] at hw;simp only [Bool.and_eq_true,List.isEmpty_iff] at hw;exact ⟨hw.2.2,by rw [hw.2.1];rfl⟩
 ·rw [if_neg h8] at hw;by_cases h7:k=7
  ·rw [if_pos h7] at hw;simp only [Bool.and_eq_true] at hw;exact hw.2
  ·rw [if_neg h7] at hw;simp only [Bool.and_eq_true,List.isEmpty_iff] at hw;exact ⟨by rw [hw.2.2.2.1];rfl,by rw [hw.2.2.2.2];rfl⟩
theorem funcL_eq (f:Fn6):funcL f=funcT.data.toList++([32]++(f.f0.data.toList++([32]++(bodyL f.f2++ [10])))):=by
 unfold funcL lineL
 simp only [List.map_cons,List.map_nil];rw [join_cons2,join_cons2];simp [Lib.join,List.intercalate]
theorem prF_fn (a b c d:List Rw6) (t:Int): ∀ f∈prF a b c d t,(f.f2=blkL a∨f.f2=blkL b∨f.f2=blkL c∨f.f2=blkL d)∧f.f0.data.toList.length≤4:=by
 intro f hf;unfold prF at hf
 split at hf<;>simp only [List.mem_cons,List.not_mem_nil,or_false] at hf<;>rcases hf with rfl|rfl|rfl|rfl<;>simp
theorem body_len (l:List Rw6) (h:rzL l≤40):wfL (blkL l)=true∧(lsW (blkL l)).length≤240∧(spT (lsW (blkL l))).length≤1200∧(bodyL (blkL l)).length≤1203:=by
 obtain ⟨h1,h2⟩:=blkL_len l;refine ⟨blkL_wf l,by omega,by omega,?_⟩;rw [bodyL_eq];simp only [List.length_append,List.length_cons,List.length_nil];omega
structure Few4 (a b c d:List Rw6):Prop where
 a1:rzL a≤40
 a2:rdL a≤12
 b1:rzL b≤40
 b2:rdL b≤12
 c1:rzL c≤40
 c2:rdL c≤12
 d1:rzL d≤40
 d2:rdL d≤12
theorem Few4.body {a b c d:List Rw6} (h:Few4 a b c d) (t:Int): ∀ f∈prF a b c d t,wfL f.f2=true∧(lsW f.f2).length≤240∧(spT (lsW f.f2)).length≤1200∧(bodyL f.f2).length≤1203:=by
 intro f hf;rcases (prF_fn a b c d t f hf).1 with e|e|e|e<;>rw [e]
 ·exact body_len a h.a1
 ·exact body_len b h.b1
 ·exact body_len c h.c1
 ·exact body_len d h.d1
theorem Few4.wfF {a b c d:List Rw6} (h:Few4 a b c d) (t:Int):wfF (prF a b c d t):=prF_ok a b c d t h.a2 h.b2 h.c2 h.d2
theorem Few4.text {a b c d:List Rw6} (h:Few4 a b c d) (t:Int):(textL prV (prL t) (prF a b c d t)).length≤6000:=by
 have h1:(prV.flatMap (declL varT)).length=18:=by decide
 have h2:((prL t).flatMap (declL lockT)).length=21:=by unfold prL;split<;>decide
 have hF: ∀ f∈prF a b c d t,(funcL f).length≤1218:=by
  intro f hf;have h3:=(h.body t f hf).2.2.2;have h4:=(prF_fn a b c d t f hf).2;rw [funcL_eq];have hfl:funcT.data.toList.length=4:=rfl;simp only [List.length_append,List.length_cons,List.length_nil,hfl];omega
 have h4:((prF a b c d t).flatMap funcL).length≤4872:=by
  have key: ∀ L:List Fn6,(∀ f∈L,(funcL f).length≤1218)→(L.flatMap funcL).length≤1218 * L.length:=by
   intro L;induction L with
   |nil=>simp
   |cons x r ih=>
    intro hL;have h5:=hL x (by simp);have h6:=ih fun f hf=>hL f (by simp [hf])
    simp only [List.flatMap_cons,List.length_append,List.length_cons];omega
  have:=key _ hF;have hl:(prF a b c d t).length=4:=by unfold prF;split<;>rfl
  rw [hl] at this;omega
 unfold textL
 simp only [List.length_append];omega
theorem lsK_wf: ∀ n,(∀ s:St6,szS s≤n→wfS s=true→stK s=true)∧(∀ l:List St6,szL l≤n→wfL l=true→lsK l=true):=by
 intro n;induction n with
 |zero=>
  refine ⟨fun s h=>by rw [szS_eq] at h;omega,fun l h _=>?_⟩;cases l with
  |nil=>rfl
  |cons s r=>simp only [szL] at h;have:=szS_eq s;omega
 |succ n ih=>
  have hS: ∀ s:St6,szS s≤n+1→wfS s=true→stK s=true:=by
   intro s h hw;rw [szS_eq] at h;obtain ⟨h1,h2⟩:=wf_kind hw;obtain ⟨h3,h4⟩:=wf_in hw;rw [stK_eq,ih.2 _ (by omega) h3,ih.2 _ (by omega) h4];simp [h1,h2]
  refine ⟨hS,fun l h hw=>?_⟩;induction l with
  |nil=>rfl
  |cons s r ih2=>
   simp only [wfL,Bool.and_eq_true] at hw;simp only [szL] at h;rw [lsK,hS s (by omega) hw.1,ih2 (by omega) hw.2];rfl
theorem wf_lsK {l:List St6} (h:wfL l=true):lsK l=true:=(lsK_wf _).2 l (Nat.le_refl _) h
theorem Few4.Text {a b c d:List Rw6} (h:Few4 a b c d) (t:Int):parse_Text.f prV (prL t) (prF a b c d t)=some ⟨(textL prV (prL t) (prF a b c d t)).toArray⟩:=by
 have h1:=h.text t;unfold parse_Text.f
 rw [if_pos];unfold textOk
 simp only [Bool.and_eq_true,decide_eq_true_eq,List.all_eq_true];refine ⟨by omega,fun f hf=>?_⟩;obtain ⟨h2,h3,_⟩:=h.body t f hf;exact ⟨wf_lsK h2,by omega⟩
theorem Few4.Prog {a b c d:List Rw6} (h:Few4 a b c d) (t:Int):EvS (fun k=>deadboltlaw6_Prog.f k a b c d t) (prV,prL t,prF a b c d t):=by
 obtain ⟨_,_,_,_,_,_,_,_⟩:=h;exact Prog_ev a b c d t (by omega) (by omega) (by omega) (by omega)
end Go.Proofs.YtkmafndljelopaaDoor.Q
