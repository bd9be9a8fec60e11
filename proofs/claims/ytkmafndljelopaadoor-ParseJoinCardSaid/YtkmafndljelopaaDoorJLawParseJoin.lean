/- The row of the law ParseJoin, proved: for every input it returns true. What it needs of the program is in the walk, the rest in YtkmafndljelopaaDoorPureParseJoin; where package-level variables are listed, the tied card is closed at the end. Conditions: those of the given row. Written by wip/xrow.py. -/
import Derived.Test.YtkmafndljelopaaDoorRows
import Derived.Test.YtkmafndljelopaaDoorCards
import Derived.Test.YtkmafndljelopaaDoorTie
import Derived.Test.YtkmafndljelopaaDoorJQ15
import Derived.Test.YtkmafndljelopaaDoorJPureParseJoin
import Derived.Test.YtkmafndljelopaaDoorJRaw
import Derived.WalkKit
import Derived.ProofKit
import Derived.OpenShut
import Derived.ShutString
import Derived.ChangeOld
import Derived.Below
import Derived.SizedLaws
import Derived.LaidMore
import Derived.LaidLaws
import Derived.Stop.Joined
import Derived.Stop.LaidErr
import Derived.SevenTiedAt
import Derived.ChangeVars
namespace Go.Proofs.YtkmafndljelopaaDoor.parseJoin
open Go.ChangeShapes Go.WideShapes Go.ChangeAt Go.RowKit
open Go.ChangeMaps (open_string shut_string)
set_option linter.unusedVariables false
theorem own:ownKnob Tryd.prog.godebug=none:=by kernel_rfl
theorem laidOut:laidOutB Tryd.prog=true:=by kernel_rfl
def IsRow (k:IntKind) (w:World) (a:Option Addr) (len cap:Nat) (zs:List Int):Prop:=
 (a=none∧len=0∧cap=0∧zs= [])∨
 ∃ x,a=some x∧len≤cap∧cap≤maxLen∧zs.length=cap∧(∀ i,i<zs.length→w.cell? (x.add i)=some (.int k (zs.getD i 0)))∧ ∀ n∈zs,(Lit.int k n).wf=true
def lst:List (String×DataW Unit):= [("unicode.White_Space",Rows.laid_unicode_White_Space),("strings.asciiSpace",Rows.laid_strings_asciiSpace)]
theorem av8 (os:Os) (args:Array Value):laidMetH Tryd.prog lst ((World.doorLaid Tryd.prog 33 os).forCall (fun _ _=>0) ⟨#[],args,[]⟩).memory:=
 laidMetH_of_parts3 (fuel:=8) (laidMet_of_run' 8 (by kernel_rfl) (by kernel_rfl)) (by kernel_rfl) (by kernel_rfl)
theorem gl {W:World} (h:laidMetH Tryd.prog lst W):Q.GL W:=by
 rw [MakeChecks.laidMetH_plain _ _ _ (by kernel_rfl)] at h;exact Q.aqO (lst:=lst) h (by kernel_rfl)
set_option maxRecDepth 100000 in
theorem lifted (os:Os) (started:os.Started) (H:Type) (enc:TypeId×Value→H):
  ReturnsInHanded {} Tryd.checked os 9 .any (fun w args=>(Rows.parseJoinSpec.pre enc Tryd.prog Tryd.f9 [] false w args∧laidMetH Tryd.prog lst w)∧sizedMet enc Tryd.prog Tryd.f9 (OpenSpec.ofChange Rows.parseJoinSpec) false w args)
   (Rows.parseJoinSpec.post enc Tryd.prog Tryd.f9 false true false false):=by
 refine returnsInHanded_of_change_and (C:=Tryd.checked) (X:=fun w _=>laidMetH Tryd.prog lst w) (fun _ _ _ hh h=>h.of_heap hh) own started (by kernel_rfl) Tryd.func9
  (ChangeSpec.witness_shaped (enc:=enc) (C:=Tryd.checked) (os:=os) (X:=fun w _=>laidMetH Tryd.prog lst w) false (World.doorLaid Tryd.prog 33 os) #[.slice none 0 0,.slice none 0 0,.slice none 0 0] 8 rfl (World.shaped_of_RefB (by kernel_rfl) (by kernel_rfl)) (by kernel_rfl) (by kernel_rfl) (by kernel_rfl) (av8 os _)) ?_
 intro W base args ds gs before agA hW hcnd ZM hL _;have hsz:(DataW.weightsEach Tryd.prog (Tryd.f9.params.toList++Rows.parseJoinSpec.plain.varTypes Tryd.prog) (ds++gs)).all (· ≤reachBytes)=true:=ZM;have hval: ∀ (j:Nat) t v,Tryd.f9.params[j]? =some t→args[j]? =some v→Value.okWide Tryd.prog W .any base t v:=agA;have hW':=hW;obtain ⟨p,q,Z7,hV,rfl,hfz,hnd⟩:=hW;have hA:DataW.TrodAll enc Tryd.prog W 0 (fun _=>true) true Tryd.f9.params.toList args.toList ds p:=Z7;rw [Tryd.params9] at hA hval hsz;obtain ⟨v0,aKD,d0,aCA,p0,q0,hargs,rfl,rfl,h0,r0⟩:=trodAll_cons hA;obtain ⟨v1,aD1,d1,aNT,p1,q1,rfl,rfl,rfl,h1,r1⟩:=trodAll_cons r0;obtain ⟨v2,aE1,d2,aIF,p2,q2,rfl,rfl,rfl,h2,r2⟩:=trodAll_cons r1;obtain ⟨rfl,rfl,rfl⟩:=trodAll_nil r2;obtain rfl:args= #[v0,v1,v2]:=by cases args;simp_all
 obtain ⟨rfl,rfl⟩:=trodVars_none hV;obtain ⟨a0,an4,ac8,rfl⟩:=okWide_slice Tryd.underlying22 (hval 0 22 v0 rfl rfl);have k0:=h0;have aqK: ∀ x∈p0,x.block<W.heap.size:=by obtain ⟨m,hm⟩:=k0;exact DataW.trod_lt m _ _ _ hm
 obtain ⟨z0,rfl,w0,y0⟩: ∃ zs,an4=zs.length∧Go.Proofs.YtkmafndljelopaaDoorW.PrintWords.Kd.C Q.k105 W a0 zs.length zs∧zs.length≤ac8:=by
  obtain ⟨fuel,hf⟩:=h0;obtain ⟨A,cap',xs,hcs,hle,hC⟩:=Q.TP hf;simp [Value.cells] at hcs
  obtain ⟨rfl,rfl,rfl⟩:=hcs;exact ⟨xs,rfl,hC,hle⟩
 obtain ⟨a1,av4,ag7,rfl⟩:=okWide_slice Tryd.underlying22 (hval 1 22 v1 rfl rfl);have k1:=h1;have as0: ∀ x∈p1,x.block<W.heap.size:=by obtain ⟨m,hm⟩:=k1;exact DataW.trod_lt m _ _ _ hm
 obtain ⟨z1,rfl,w1,y1⟩: ∃ zs,av4=zs.length∧Go.Proofs.YtkmafndljelopaaDoorW.PrintWords.Kd.C Q.k105 W a1 zs.length zs∧zs.length≤ag7:=by
  obtain ⟨fuel,hf⟩:=h1;obtain ⟨A,cap',xs,hcs,hle,hC⟩:=Q.TP hf;simp [Value.cells] at hcs
  obtain ⟨rfl,rfl,rfl⟩:=hcs;exact ⟨xs,rfl,hC,hle⟩
 obtain ⟨a2,amI,YL,rfl⟩:=okWide_slice Tryd.underlying22 (hval 2 22 v2 rfl rfl);have k2:=h2;have aw7: ∀ x∈p2,x.block<W.heap.size:=by obtain ⟨m,hm⟩:=k2;exact DataW.trod_lt m _ _ _ hm
 obtain ⟨z2,rfl,w2,y2⟩: ∃ zs,amI=zs.length∧Go.Proofs.YtkmafndljelopaaDoorW.PrintWords.Kd.C Q.k105 W a2 zs.length zs∧zs.length≤YL:=by
  obtain ⟨fuel,hf⟩:=h2;obtain ⟨A,cap',xs,hcs,hle,hC⟩:=Q.TP hf;simp [Value.cells] at hcs
  obtain ⟨rfl,rfl,rfl⟩:=hcs;exact ⟨xs,rfl,hC,hle⟩
 clear Z7 agA ZM hsz;obtain ⟨k,hk⟩:=Pure.ParseJoin z0 z1 z2;refine (Q.dA.calls k a0 ac8 z0 a1 ag7 z1 a2 YL z2 true W w0 y0 w1 y1 w2 y2 hk (gl hL)).mono fun e W' ⟨he,bel⟩=>?_
 subst he;exact ⟨_,rfl,_,_,_,[],_,[],hW',trodAll_mk1 (shut_bool Tryd.underlying4 _),(trodAll_cons_mk (Below.trod laidOut (by kernel_rfl) (of_decide_eq_true (by kernel_rfl)) k0 bel aqK) (trodAll_cons_mk (Below.trod laidOut (by kernel_rfl) (of_decide_eq_true (by kernel_rfl)) k1 bel as0) (trodAll_cons_mk (Below.trod laidOut (by kernel_rfl) (of_decide_eq_true (by kernel_rfl)) k2 bel aw7) trodAll_mk0))),rfl,bel.frame _,fun h=>by cases h⟩
theorem over:Rows.parseJoinRow.holds Tryd.pinned (OpenSpec.ofChange Rows.parseJoinSpec):=
 OpenClaim.holds_of_wide 9 Tryd.f9 rfl rfl rfl rfl rfl rfl rfl ⟨rfl,rfl,rfl,rfl,rfl⟩ rfl rfl rfl rfl rfl (by kernel_rfl) Tryd.func9 (by kernel_rfl)
  (of_decide_eq_true (by kernel_rfl)) (by unfold Func.isWrapper;first|(rw [if_pos (by decide+kernel)];kernel_rfl)|(rw [if_neg (by decide+kernel)];exact ⟨rfl,rfl⟩))
  (fun os started H enc _=>lifted os started H enc)
theorem proved:Rows.ParseJoinSaid:=over
theorem card:Rows.ParseJoinCardSaid:=
 Claim7.holds_tied_plain_at .later [] [.listed,.data] true (true,"7946a8b5dfb17ccce58126fe4c09abaceaf06ec3b6e3bd19d484bd1a34f1deca") true
  over (fun _ h=>by cases h) (by kernel_rfl) (fun _ h=>by cases h) parseJoin_row_tie rfl ⟨rfl,rfl⟩ (by kernel_rfl) rfl
  (fun f fn hf hfn=>by
   obtain rfl:f=9:=Option.some.inj ((show Tryd.prog.funcNamed "deadbolt/deadboltlaw6.ParseJoin" =some 9 by kernel_rfl).symm.trans hf)|>.symm
   obtain rfl:fn=Tryd.f9:=(Option.some.inj (Tryd.func9.symm.trans hfn)).symm;exact ⟨by kernel_rfl,fun j t ht=>by
    rw [Tryd.params9] at ht;have hm:t∈ [22,22,22]:=by simpa using Array.mem_of_getElem? ht
    have hall:([22,22,22].all fun u=>!Tryd.prog.wantsStandIn u)=true:=by kernel_rfl
    exact (show Tryd.prog.wantsStandIn t=false by simpa using List.all_eq_true.1 hall t hm)⟩)
  (by kernel_rfl)
#print axioms card
end Go.Proofs.YtkmafndljelopaaDoor.parseJoin
namespace Go.Proofs.YtkmafndljelopaaDoor
theorem parseJoin_holds:Rows.ParseJoinCardSaid:=parseJoin.card
end Go.Proofs.YtkmafndljelopaaDoor
