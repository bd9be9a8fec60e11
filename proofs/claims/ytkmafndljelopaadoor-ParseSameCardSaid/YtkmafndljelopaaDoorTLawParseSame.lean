/- The row of the law ParseSame, proved: for every input it returns true. What it needs of the program is in the walk, the rest in YtkmafndljelopaaDoorPureParseSame; where package-level variables are listed, the tied card is closed at the end. Conditions: those of the given row. Written by wip/xrow.py. -/
import Derived.Test.YtkmafndljelopaaDoorRows
import Derived.Test.YtkmafndljelopaaDoorCards
import Derived.Test.YtkmafndljelopaaDoorTie
import Derived.Test.YtkmafndljelopaaDoorTQ16
import Derived.Test.YtkmafndljelopaaDoorTPureParseSame
import Derived.Test.YtkmafndljelopaaDoorTRaw
import Derived.WalkKit
import Derived.ProofKit
import Derived.OpenShut
import Derived.ShutString
import Derived.ChangeOld
import Derived.Below
import Derived.SizedLaws
import Derived.LaidMore
import Derived.LaidLaws
import Derived.Stop.Joined
import Derived.Stop.LaidErr
import Derived.SevenTiedAt
import Derived.ChangeVars
namespace Go.Proofs.YtkmafndljelopaaDoor.parseSame
open Go.ChangeShapes Go.WideShapes Go.ChangeAt Go.RowKit
open Go.ChangeMaps (open_string shut_string)
set_option linter.unusedVariables false
theorem own:ownKnob Tryd.prog.godebug=none:=by kernel_rfl
theorem laidOut:laidOutB Tryd.prog=true:=by kernel_rfl
def IsRow (k:IntKind) (w:World) (a:Option Addr) (len cap:Nat) (zs:List Int):Prop:=
 (a=none∧len=0∧cap=0∧zs= [])∨
 ∃ x,a=some x∧len≤cap∧cap≤maxLen∧zs.length=cap∧(∀ i,i<zs.length→w.cell? (x.add i)=some (.int k (zs.getD i 0)))∧ ∀ n∈zs,(Lit.int k n).wf=true
def lst:List (String×DataW Unit):= [("unicode.White_Space",Rows.laid_unicode_White_Space),("strings.asciiSpace",Rows.laid_strings_asciiSpace)]
theorem door_met (os:Os) (args:Array Value):laidMetH Tryd.prog lst ((World.doorLaid Tryd.prog 33 os).forCall (fun _ _=>0) ⟨#[],args,[]⟩).memory:=
 laidMetH_of_parts3 (fuel:=8) (laidMet_of_run' 8 (by kernel_rfl) (by kernel_rfl)) (by kernel_rfl) (by kernel_rfl)
theorem gl {W:World} (h:laidMetH Tryd.prog lst W):Q.GL W:=by
 rw [MakeChecks.laidMetH_plain _ _ _ (by kernel_rfl)] at h;exact Q.gl_of_laid (lst:=lst) h (by kernel_rfl)
set_option maxRecDepth 100000 in
theorem lifted (os:Os) (started:os.Started) (H:Type) (enc:TypeId×Value→H):
  ReturnsInHanded {} Tryd.checked os 7 .any (fun w args=>(Rows.parseSameSpec.pre enc Tryd.prog Tryd.f7 [] false w args∧laidMetH Tryd.prog lst w)∧sizedMet enc Tryd.prog Tryd.f7 (OpenSpec.ofChange Rows.parseSameSpec) false w args)
   (Rows.parseSameSpec.post enc Tryd.prog Tryd.f7 false true false false):=by
 refine returnsInHanded_of_change_and (C:=Tryd.checked) (X:=fun w _=>laidMetH Tryd.prog lst w) (fun _ _ _ hh h=>h.of_heap hh) own started (by kernel_rfl) Tryd.func7
  (ChangeSpec.witness_shaped (enc:=enc) (C:=Tryd.checked) (os:=os) (X:=fun w _=>laidMetH Tryd.prog lst w) false (World.doorLaid Tryd.prog 33 os) #[.slice none 0 0,.slice none 0 0,.slice none 0 0,.slice none 0 0,.int .i64 0,.int .i64 0] 8 rfl (World.shaped_of_RefB (by kernel_rfl) (by kernel_rfl)) (by kernel_rfl) (by kernel_rfl) (by kernel_rfl) (door_met os _)) ?_
 intro W base args ds gs before hval0 hW hcnd hsz0 hL _;have hsz:(DataW.weightsEach Tryd.prog (Tryd.f7.params.toList++Rows.parseSameSpec.plain.varTypes Tryd.prog) (ds++gs)).all (· ≤reachBytes)=true:=hsz0;have hval: ∀ (j:Nat) t v,Tryd.f7.params[j]? =some t→args[j]? =some v→Value.okWide Tryd.prog W .any base t v:=hval0;have hW':=hW;obtain ⟨p,q,hA0,hV,rfl,hfz,hnd⟩:=hW;have hA:DataW.TrodAll enc Tryd.prog W 0 (fun _=>true) true Tryd.f7.params.toList args.toList ds p:=hA0;rw [Tryd.params7] at hA hval hsz;obtain ⟨v0,vs0,d0,ds0,p0,q0,hargs,rfl,rfl,h0,r0⟩:=trodAll_cons hA;obtain ⟨v1,vs1,d1,ds1,p1,q1,rfl,rfl,rfl,h1,r1⟩:=trodAll_cons r0;obtain ⟨v2,vs2,d2,ds2,p2,q2,rfl,rfl,rfl,h2,r2⟩:=trodAll_cons r1;obtain ⟨v3,vs3,d3,ds3,p3,q3,rfl,rfl,rfl,h3,r3⟩:=trodAll_cons r2;obtain ⟨v4,vs4,d4,ds4,p4,q4,rfl,rfl,rfl,h4,r4⟩:=trodAll_cons r3;obtain ⟨v5,vs5,d5,ds5,p5,q5,rfl,rfl,rfl,h5,r5⟩:=trodAll_cons r4;obtain ⟨rfl,rfl,rfl⟩:=trodAll_nil r5;obtain rfl:args= #[v0,v1,v2,v3,v4,v5]:=by cases args;simp_all
 obtain ⟨rfl,rfl⟩:=trodVars_none hV;obtain ⟨a0,len0,cap0,rfl⟩:=okWide_slice Tryd.underlying22 (hval 0 22 v0 rfl rfl);have k0:=h0;have lt0: ∀ x∈p0,x.block<W.heap.size:=by obtain ⟨m,hm⟩:=k0;exact DataW.trod_lt m _ _ _ hm
 obtain ⟨z0,rfl,w0,y0⟩: ∃ zs,len0=zs.length∧Go.Proofs.YtkmafndljelopaaDoorW.PrintWords.Kd.C Q.k105 W a0 zs.length zs∧zs.length≤cap0:=by
  obtain ⟨fuel,hf⟩:=h0;obtain ⟨A,cap',xs,hcs,hle,hC⟩:=Q.open_raws hf;simp [Value.cells] at hcs
  obtain ⟨rfl,rfl,rfl⟩:=hcs;exact ⟨xs,rfl,hC,hle⟩
 obtain ⟨a1,len1,cap1,rfl⟩:=okWide_slice Tryd.underlying22 (hval 1 22 v1 rfl rfl);have k1:=h1;have lt1: ∀ x∈p1,x.block<W.heap.size:=by obtain ⟨m,hm⟩:=k1;exact DataW.trod_lt m _ _ _ hm
 obtain ⟨z1,rfl,w1,y1⟩: ∃ zs,len1=zs.length∧Go.Proofs.YtkmafndljelopaaDoorW.PrintWords.Kd.C Q.k105 W a1 zs.length zs∧zs.length≤cap1:=by
  obtain ⟨fuel,hf⟩:=h1;obtain ⟨A,cap',xs,hcs,hle,hC⟩:=Q.open_raws hf;simp [Value.cells] at hcs
  obtain ⟨rfl,rfl,rfl⟩:=hcs;exact ⟨xs,rfl,hC,hle⟩
 obtain ⟨a2,len2,cap2,rfl⟩:=okWide_slice Tryd.underlying22 (hval 2 22 v2 rfl rfl);have k2:=h2;have lt2: ∀ x∈p2,x.block<W.heap.size:=by obtain ⟨m,hm⟩:=k2;exact DataW.trod_lt m _ _ _ hm
 obtain ⟨z2,rfl,w2,y2⟩: ∃ zs,len2=zs.length∧Go.Proofs.YtkmafndljelopaaDoorW.PrintWords.Kd.C Q.k105 W a2 zs.length zs∧zs.length≤cap2:=by
  obtain ⟨fuel,hf⟩:=h2;obtain ⟨A,cap',xs,hcs,hle,hC⟩:=Q.open_raws hf;simp [Value.cells] at hcs
  obtain ⟨rfl,rfl,rfl⟩:=hcs;exact ⟨xs,rfl,hC,hle⟩
 obtain ⟨a3,len3,cap3,rfl⟩:=okWide_slice Tryd.underlying22 (hval 3 22 v3 rfl rfl);have k3:=h3;have lt3: ∀ x∈p3,x.block<W.heap.size:=by obtain ⟨m,hm⟩:=k3;exact DataW.trod_lt m _ _ _ hm
 obtain ⟨z3,rfl,w3,y3⟩: ∃ zs,len3=zs.length∧Go.Proofs.YtkmafndljelopaaDoorW.PrintWords.Kd.C Q.k105 W a3 zs.length zs∧zs.length≤cap3:=by
  obtain ⟨fuel,hf⟩:=h3;obtain ⟨A,cap',xs,hcs,hle,hC⟩:=Q.open_raws hf;simp [Value.cells] at hcs
  obtain ⟨rfl,rfl,rfl⟩:=hcs;exact ⟨xs,rfl,hC,hle⟩
 obtain ⟨a4,rfl,rfl,rfl,w4⟩:=open_int Tryd.underlying3 (hval 4 3 v4 rfl rfl) h4;obtain ⟨a5,rfl,rfl,rfl,w5⟩:=open_int Tryd.underlying3 (hval 5 3 v5 rfl rfl) h5;clear hA0 hval0 hsz0 hsz;obtain ⟨k,hk⟩:=Pure.ParseSame z0 z1 z2 z3 a4 a5;refine (Q.deadboltlaw6_ParseSame.calls k a0 cap0 z0 a1 cap1 z1 a2 cap2 z2 a3 cap3 z3 a4 a5 true W w0 y0 w1 y1 w2 y2 w3 y3 hk (gl hL)).mono fun e W' ⟨he,bel⟩=>?_
 subst he;exact ⟨_,rfl,_,_,_,[],_,[],hW',trodAll_mk1 (shut_bool Tryd.underlying4 _),(trodAll_cons_mk (Below.trod laidOut (by kernel_rfl) (of_decide_eq_true (by kernel_rfl)) k0 bel lt0) (trodAll_cons_mk (Below.trod laidOut (by kernel_rfl) (of_decide_eq_true (by kernel_rfl)) k1 bel lt1) (trodAll_cons_mk (Below.trod laidOut (by kernel_rfl) (of_decide_eq_true (by kernel_rfl)) k2 bel lt2) (trodAll_cons_mk (Below.trod laidOut (by kernel_rfl) (of_decide_eq_true (by kernel_rfl)) k3 bel lt3) (trodAll_cons_mk (shut_int Tryd.underlying3 w4) (trodAll_cons_mk (shut_int Tryd.underlying3 w5) trodAll_mk0)))))),rfl,bel.frame _,fun h=>by cases h⟩
theorem over:Rows.parseSameRow.holds Tryd.pinned (OpenSpec.ofChange Rows.parseSameSpec):=
 OpenClaim.holds_of_wide 7 Tryd.f7 rfl rfl rfl rfl rfl rfl rfl ⟨rfl,rfl,rfl,rfl,rfl⟩ rfl rfl rfl rfl rfl (by kernel_rfl) Tryd.func7 (by kernel_rfl)
  (of_decide_eq_true (by kernel_rfl)) (by unfold Func.isWrapper;first|(rw [if_pos (by decide+kernel)];kernel_rfl)|(rw [if_neg (by decide+kernel)];exact ⟨rfl,rfl⟩))
  (fun os started H enc _=>lifted os started H enc)
theorem proved:Rows.ParseSameSaid:=over
theorem card:Rows.ParseSameCardSaid:=
 Claim7.holds_tied_plain_at .later [] [.listed,.data] true (true,"7946a8b5dfb17ccce58126fe4c09abaceaf06ec3b6e3bd19d484bd1a34f1deca") true
  over (fun _ h=>by cases h) (by kernel_rfl) (fun _ h=>by cases h) parseSame_row_tie rfl ⟨rfl,rfl⟩ (by kernel_rfl) rfl
  (fun f fn hf hfn=>by
   obtain rfl:f=7:=Option.some.inj ((show Tryd.prog.funcNamed "deadbolt/deadboltlaw6.ParseSame" =some 7 by kernel_rfl).symm.trans hf)|>.symm
   obtain rfl:fn=Tryd.f7:=(Option.some.inj (Tryd.func7.symm.trans hfn)).symm;exact ⟨by kernel_rfl,fun j t ht=>by
    rw [Tryd.params7] at ht;have hm:t∈ [22,22,22,22,3,3]:=by simpa using Array.mem_of_getElem? ht
    have hall:([22,22,22,22,3,3].all fun u=>!Tryd.prog.wantsStandIn u)=true:=by kernel_rfl
    exact (show Tryd.prog.wantsStandIn t=false by simpa using List.all_eq_true.1 hall t hm)⟩)
  (by kernel_rfl)
#print axioms card
end Go.Proofs.YtkmafndljelopaaDoor.parseSame
namespace Go.Proofs.YtkmafndljelopaaDoor
theorem parseSame_holds:Rows.ParseSameCardSaid:=parseSame.card
end Go.Proofs.YtkmafndljelopaaDoor
