/- Chapter 6's Text and Body, in plain words: they are the program's own. -/
import Derived.Test.YtkmafndljelopaaDoorJBlk
import Derived.Test.YtkmafndljelopaaDoorJQ6
import Derived.Test.YtkmafndljelopaaDoorJQ5
namespace Go.Proofs.YtkmafndljelopaaDoor.Q
open Go.RowKit Go.Proofs.YtkmafndljelopaaDoorW.PrintWords Go.Proofs.YtkmafndljelopaaDoorW.PrintLast Go.Proofs.YtkmafndljelopaaDoorW.PrintMore Go.Proofs.YtkmafndljelopaaDoor.Lx
set_option linter.unusedVariables false
set_option linter.unusedSimpArgs false
theorem afP: ∀ (ws:List ByteArray) (z:ByteArray),Lib.join ((ws++ [z]).map (·.data.toList)) [32]=spT ws++z.data.toList
 |[],z=>by simp [Lib.join,List.intercalate,spT]
 |[w],z=>by
  simp only [List.cons_append,List.nil_append,List.map_cons,List.map_nil];rw [vX,rZ];simp [Lib.join,List.intercalate,spT]
 |w::v::r,z=>by
  have ih:=afP (v::r) z;simp only [List.cons_append,List.map_cons] at ih ⊢;rw [vX,ih,rZ w];simp
theorem ET (l:List St6):bodyL l= [123,32]++(spT (lsW l)++ [125]):=by
 unfold bodyL blW
 rw [← List.cons_append,afP,rZ];rfl
theorem WT (l:List St6):spT (blW l)=bodyL l++ [32]:=by
 rw [ET,blW,rZ,xI];simp [spT,openB,closeB]
theorem axI (k:Int) (h0:1≤k) (h1:k≤8):yU.f k=some (verbC k):=by
 obtain ⟨m,rfl⟩: ∃ m:Nat,k=m:=⟨k.toNat,by omega⟩;have hm:m<9:=by omega
 have hp:1≤m:=by omega
 clear h0 h1;revert m
 decide+kernel
theorem ap0 {s:St6} (hw:wfS s=true):1≤s.f0∧s.f0≤8:=by
 obtain ⟨k,a,nm,A,B⟩:=s;simp only [wfS] at hw;show 1≤k∧k≤8
 by_cases h8:k=8
 ·omega
 ·rw [if_neg h8] at hw;by_cases h7:k=7
  ·omega
  ·rw [if_neg h7] at hw;simp only [Bool.and_eq_true,decide_eq_true_eq] at hw;omega
theorem ayS {s:St6} (hw:wfS s=true):wfL s.f3=true∧wfL s.f4=true:=by
 obtain ⟨k,a,nm,A,B⟩:=s;simp only [wfS] at hw;show wfL A=true∧wfL B=true
 by_cases h8:k=8
 ·rw [if_pos h8] at hw;simp only [Bool.and_eq_true,List.isEmpty_iff] at hw;exact ⟨hw.2.2,by rw [hw.2.1];rfl⟩
 ·rw [if_neg h8] at hw;by_cases h7:k=7
  ·rw [if_pos h7] at hw;simp only [Bool.and_eq_true] at hw;exact hw.2
  ·rw [if_neg h7] at hw;simp only [Bool.and_eq_true,List.isEmpty_iff] at hw;exact ⟨by rw [hw.2.2.2.1];rfl,by rw [hw.2.2.2.2];rfl⟩
theorem acL: ∀ {l:List St6},wfL l=true→ ∀ s∈l,wfS s=true
 |s::r,h,x,hx=>by
  simp only [wfL,Bool.and_eq_true] at h;rcases List.mem_cons.1 hx with rfl|hx
  ·exact h.1
  ·exact acL h.2 x hx
theorem asZ (ws:List ByteArray):ws.length≤(spT ws).length:=by
 induction ws with
 |nil=>simp
 |cons a r ih=>rw [rZ];simp only [List.length_cons,List.length_append,List.length_nil];omega
theorem azO (l:List St6) (i:Nat) (h:i<l.length):(spT (stW l[i])).length≤(spT (lsW l)).length:=by
 have:lsW l=lsW (l.take i)++lsW (l.drop i):=by rw [← arW,List.take_append_drop]
 rw [this,XI l i h,xI,xI];simp only [List.length_append];omega
theorem rG (b:ByteArray):b.size=b.data.toList.length:=by rw [Array.length_toList];rfl
theorem zY (a b:ByteArray):(a++b).data.toList=a.data.toList++b.data.toList:=by rw [ByteArray.data_append,Array.toList_append]
set_option maxHeartbeats 1000000 in
theorem JJ (l:List St6) (hw:wfL l=true) (hb:(spT (lsW l)).length≤900000):EvS (fun k=>e7.f k l) ⟨(bodyL l).toArray⟩:=by
 have hll:=FU l;have aHJ:=asZ (lsW l);have H: ∀ (m i:Nat) (acc res:ByteArray),l.length - i=m→i≤l.length→acc.size+(spT (lsW (l.drop i))).length≤2000000→res.data.toList=acc.data.toList++(spT (lsW (l.drop i))++ [125])→
   EvS (fun k=>e7.l0 k l acc (i:Int)) res:=by
  intro m;induction m with
  |zero=>
   intro i acc res hm hi ha hr;obtain rfl:i=l.length:=by omega
   refine EvS.succ ?_
   simp only [e7.l0];refine EvS.if_neg (by omega) (EvS.if_pos (by omega) ?_);have:acc++(⟨#[125]⟩:ByteArray)=res:=by
    apply AY;rw [hr,zY,List.drop_length];rfl
   rw [this];exact .some_ _
  |succ m ih=>
   intro i acc res hm hi ha hr;have hlt:i<l.length:=by omega
   have hmem:l[i]∈l:=List.getElem_mem hlt;have hws:=acL hw _ hmem;obtain ⟨mT,xT⟩:=ap0 hws;obtain ⟨hwA,hwB⟩:=ayS hws;have QW:i≤1000000:=by omega
   have hin:=azO l i hlt;have lC:SizeOf.sizeOf l[i].f3<SizeOf.sizeOf l:=by
    have h1:=List.sizeOf_lt_of_mem hmem;have h2:SizeOf.sizeOf l[i].f3<SizeOf.sizeOf l[i]:=by cases l[i];simp;omega
    omega
   have ajI:SizeOf.sizeOf l[i].f4<SizeOf.sizeOf l:=by
    have h1:=List.sizeOf_lt_of_mem hmem;have h2:SizeOf.sizeOf l[i].f4<SizeOf.sizeOf l[i]:=by cases l[i];simp;omega
    omega
   rw [XI l i hlt,xI] at ha hr;rw [List.length_append] at ha;have next: ∀ acc':ByteArray,acc'.data.toList=acc.data.toList++spT (stW l[i])→EvS (fun k=>e7.l0 k l acc' (wrap64 ((i:Int)+1))) res:=by
    intro acc' h;rw [AN i QW];have h1:=rG acc;have h2:=rG acc';rw [h,List.length_append] at h2;refine ih (i+1) acc' res (by omega) (by omega) (by omega) ?_
    rw [hr,h];simp only [List.append_assoc]
   have hv:=NL l[i].f0 mT xT;have hvs:=rG (verbC l[i].f0);have aGL:(⟨#[32]⟩:ByteArray).size=1:=rfl;have hel:(⟨#[101,108,115,101,32]⟩:ByteArray).size=5:=rfl;have hse:=uH l[i];refine EvS.succ ?_
   simp only [e7.l0];refine EvS.if_pos (by omega) (EvS.if_pos (by omega) ?_);rw [adM l i hlt];refine EvS.bind1 (axI _ mT xT) (EvS.if_pos (by omega) (EvS.if_pos (by rw [ByteArray.size_append];omega) ?_));by_cases h7:l[i].f0=7
   ·rw [if_neg (by omega),if_pos h7] at hse;have fM:((⟨(bodyL l[i].f3).toArray⟩:ByteArray)).size=(bodyL l[i].f3).length:=rfl;have bR:(bodyL l[i].f3).length=(spT (lsW l[i].f3)).length+3:=by rw [ET];simp
    have hle:=FU l[i].f3;by_cases he:l[i].f4= []
    ·have uG:spT (stW l[i])=(verbC l[i].f0).data.toList++([32]++(bodyL l[i].f3++ [32])):=by
      rw [hse,he];simp only [List.isEmpty_nil,if_true,List.append_nil,rZ,WT,List.append_assoc]
     have vM:=congrArg List.length uG;simp only [List.length_append,List.length_cons,List.length_nil] at vM;refine EvS.if_pos h7 (EvS.bind (JJ _ hwA (by omega)) (EvS.if_pos (by simp only [ByteArray.size_append];omega) (EvS.if_pos (by simp only [ByteArray.size_append];omega) (EvS.if_neg (by rw [he];simp) ?_))));exact next _ (by rw [uG];simp only [zY,List.append_assoc])
    ·have aHQ:=FU l[i].f4;have iV:((⟨(bodyL l[i].f4).toArray⟩:ByteArray)).size=(bodyL l[i].f4).length:=rfl;have p8:(bodyL l[i].f4).length=(spT (lsW l[i].f4)).length+3:=by rw [ET];simp
     have hne:l[i].f4.isEmpty=false:=by cases h:l[i].f4<;>simp_all
     have uG:spT (stW l[i])=(verbC l[i].f0).data.toList++([32]++(bodyL l[i].f3++([32]++([101,108,115,101,32]++(bodyL l[i].f4++ [32]))))):=by
      rw [hse,hne];simp only [Bool.false_eq_true,if_false,rZ,xI,WT,List.append_assoc];rfl
     have vM:=congrArg List.length uG;simp only [List.length_append,List.length_cons,List.length_nil] at vM;have hp:0<l[i].f4.length:=List.length_pos_iff.2 he;refine EvS.if_pos h7 (EvS.bind (JJ _ hwA (by omega)) (EvS.if_pos (by simp only [ByteArray.size_append];omega) (EvS.if_pos (by simp only [ByteArray.size_append];omega) (EvS.if_pos (by omega) (EvS.if_pos (by simp only [ByteArray.size_append];omega) ?_)))));refine EvS.bind (JJ _ hwB (by omega)) (EvS.if_pos (by simp only [ByteArray.size_append];omega) (EvS.if_pos (by simp only [ByteArray.size_append];omega) ?_));exact next _ (by rw [uG];simp only [zY,List.append_assoc])
   ·refine EvS.if_neg h7 ?_
    by_cases h8:l[i].f0=8
    ·rw [if_pos h8] at hse;have fM:((⟨(bodyL l[i].f3).toArray⟩:ByteArray)).size=(bodyL l[i].f3).length:=rfl;have bR:(bodyL l[i].f3).length=(spT (lsW l[i].f3)).length+3:=by rw [ET];simp
     have hle:=FU l[i].f3;have uG:spT (stW l[i])=(verbC l[i].f0).data.toList++([32]++(bodyL l[i].f3++ [32])):=by
      rw [hse];simp only [rZ,WT,List.append_assoc]
     have vM:=congrArg List.length uG;simp only [List.length_append,List.length_cons,List.length_nil] at vM;refine EvS.if_pos h8 (EvS.bind (JJ _ hwA (by omega)) (EvS.if_pos (by simp only [ByteArray.size_append];omega) (EvS.if_pos (by simp only [ByteArray.size_append];omega) ?_)));exact next _ (by rw [uG];simp only [zY,List.append_assoc])
    ·rw [if_neg h8,if_neg h7] at hse;have uG:spT (stW l[i])=(verbC l[i].f0).data.toList++([32]++(l[i].f2.data.toList++ [32])):=by
      rw [hse];simp [rZ,spT]
     have vM:=congrArg List.length uG;simp only [List.length_append,List.length_cons,List.length_nil] at vM;have oN:=rG l[i].f2;refine EvS.if_neg h8 (EvS.if_pos (by simp only [ByteArray.size_append];omega) (EvS.if_pos (by simp only [ByteArray.size_append];omega) ?_));exact next _ (by rw [uG];simp only [zY,List.append_assoc])
 refine EvS.succ ?_
 simp only [e7.f];refine H l.length 0 ⟨#[123,32]⟩ _ (by omega) (by omega) ?_ ?_
 ·rw [List.drop_zero];show 2+_≤_
  omega
 ·rw [List.drop_zero,ET]
termination_by SizeOf.sizeOf l
theorem aoZ (n:ByteArray) (a:Int) (l:List St6) (hw:wfL l=true) (hb:(spT (lsW l)).length≤900000):EvS (fun k=>nJ.f k n a l) ⟨(bodyL l).toArray⟩:=by
 unfold nJ.f
 exact EvS.bind (JJ l hw hb) (.some_ _)
theorem akF (l:List De6) (i:Nat) (h:i<l.length):dE l (i:Int)=l[i]:=by
 unfold dE
 rw [Int.toNat_natCast,List.getD_eq_getElem?_getD,List.getElem?_eq_getElem h,Option.getD_some]
theorem amX (l:List Fn6) (i:Nat) (h:i<l.length):bF l (i:Int)=l[i]:=by
 unfold bF
 rw [Int.toNat_natCast,List.getD_eq_getElem?_getD,List.getElem?_eq_getElem h,Option.getD_some]
theorem P4 (t:ByteArray) (d:De6):declL t d=t.data.toList++([32]++(d.f0.data.toList++ [10])):=by
 unfold declL lineL
 simp only [List.map_cons,List.map_nil];rw [vX];simp [Lib.join,List.intercalate]
theorem U7 (f:Fn6):funcL f=funcT.data.toList++([32]++(f.f0.data.toList++([32]++(bodyL f.f2++ [10])))):=by
 unfold funcL lineL
 simp only [List.map_cons,List.map_nil];rw [vX,vX];simp [Lib.join,List.intercalate]
set_option maxHeartbeats 1000000 in
theorem at1 (vs ls:List De6) (fs:List Fn6) (hf: ∀ f∈fs,wfL f.f2=true∧(spT (lsW f.f2)).length≤900000) (hl:(textL vs ls fs).length≤1000000000) (h1:vs.length≤1000000) (h2:ls.length≤1000000) (h3:fs.length≤1000000):
  EvS (fun k=>dD.f k vs ls fs) ⟨(textL vs ls fs).toArray⟩:=by
 have H2: ∀ (m i:Nat) (acc res:ByteArray),fs.length - i=m→i≤fs.length→res.data.toList=acc.data.toList++(fs.drop i).flatMap funcL→res.size≤1000000000→
   EvS (fun k=>dD.l2 k acc (i:Int) vs ls fs) res:=by
  intro m;induction m with
  |zero=>
   intro i acc res hm hi hr hs;obtain rfl:i=fs.length:=by omega
   refine EvS.succ ?_
   simp only [dD.l2];refine EvS.if_neg (by omega) ?_
   have:acc=res:=AY (by rw [hr,List.drop_length];simp);rw [this];exact .some_ _
  |succ m ih=>
   intro i acc res hm hi hr hs;have hlt:i<fs.length:=by omega
   obtain ⟨hw,hb⟩:=hf _ (List.getElem_mem hlt);have hrl:=congrArg List.length hr;rw [← rG,List.drop_eq_getElem_cons hlt,List.flatMap_cons,U7] at hrl;have hfl:funcT.data.toList.length=4:=rfl;simp only [List.length_append,List.length_cons,List.length_nil,← rG acc,hfl,← rG fs[i].f0] at hrl;have e5:(⟨#[102,117,110,99,32]⟩:ByteArray).size=5:=rfl;have e1:(⟨#[32]⟩:ByteArray).size=1:=rfl;have hbs:((⟨(bodyL fs[i].f2).toArray⟩:ByteArray)).size=(bodyL fs[i].f2).length:=rfl;refine EvS.succ ?_
   simp only [dD.l2];refine EvS.if_pos (by omega) (EvS.if_pos (by omega) (EvS.if_pos (by omega) ?_));rw [amX fs i hlt,AN i (by omega)];refine EvS.if_pos (by simp only [ByteArray.size_append];omega) (EvS.if_pos (by simp only [ByteArray.size_append];omega) ?_);refine EvS.bind (aoZ _ _ _ hw hb) (EvS.if_pos (by simp only [ByteArray.size_append];omega) (EvS.if_pos (by simp only [ByteArray.size_append];omega) ?_));refine ih (i+1) _ res (by omega) (by omega) ?_ hs;rw [hr,List.drop_eq_getElem_cons hlt,List.flatMap_cons,U7];simp only [zY,List.append_assoc];rfl
 have H1: ∀ (m i:Nat) (acc res:ByteArray),ls.length - i=m→i≤ls.length→res.data.toList=acc.data.toList++((ls.drop i).flatMap (declL lockT)++fs.flatMap funcL)→res.size≤1000000000→
   EvS (fun k=>dD.l1 k acc (i:Int) vs ls fs) res:=by
  intro m;induction m with
  |zero=>
   intro i acc res hm hi hr hs;obtain rfl:i=ls.length:=by omega
   refine EvS.succ ?_
   simp only [dD.l1];refine EvS.if_neg (by omega) ?_
   exact H2 fs.length 0 acc res (by omega) (by omega) (by rw [hr,List.drop_length];simp) hs
  |succ m ih=>
   intro i acc res hm hi hr hs;have hlt:i<ls.length:=by omega
   have hrl:=congrArg List.length hr;rw [← rG,List.drop_eq_getElem_cons hlt,List.flatMap_cons,P4] at hrl;have hfl:lockT.data.toList.length=4:=rfl;simp only [List.length_append,List.length_cons,List.length_nil,← rG acc,hfl,← rG ls[i].f0] at hrl;have e5:(⟨#[108,111,99,107,32]⟩:ByteArray).size=5:=rfl;refine EvS.succ ?_
   simp only [dD.l1];refine EvS.if_pos (by omega) (EvS.if_pos (by omega) (EvS.if_pos (by omega) ?_));rw [akF ls i hlt,AN i (by omega)];refine EvS.if_pos (by simp only [ByteArray.size_append];omega) (EvS.if_pos (by simp only [ByteArray.size_append];omega) ?_);refine ih (i+1) _ res (by omega) (by omega) ?_ hs;rw [hr,List.drop_eq_getElem_cons hlt,List.flatMap_cons,P4];simp only [zY,List.append_assoc];rfl
 have H0: ∀ (m i:Nat) (acc res:ByteArray),vs.length - i=m→i≤vs.length→res.data.toList=acc.data.toList++((vs.drop i).flatMap (declL varT)++(ls.flatMap (declL lockT)++fs.flatMap funcL))→res.size≤1000000000→
   EvS (fun k=>dD.l0 k acc (i:Int) vs ls fs) res:=by
  intro m;induction m with
  |zero=>
   intro i acc res hm hi hr hs;obtain rfl:i=vs.length:=by omega
   refine EvS.succ ?_
   simp only [dD.l0];refine EvS.if_neg (by omega) ?_
   exact H1 ls.length 0 acc res (by omega) (by omega) (by rw [hr,List.drop_length];simp) hs
  |succ m ih=>
   intro i acc res hm hi hr hs;have hlt:i<vs.length:=by omega
   have hrl:=congrArg List.length hr;rw [← rG,List.drop_eq_getElem_cons hlt,List.flatMap_cons,P4] at hrl;have hfl:varT.data.toList.length=3:=rfl;simp only [List.length_append,List.length_cons,List.length_nil,← rG acc,hfl,← rG vs[i].f0] at hrl;have e5:(⟨#[118,97,114,32]⟩:ByteArray).size=4:=rfl;refine EvS.succ ?_
   simp only [dD.l0];refine EvS.if_pos (by omega) (EvS.if_pos (by omega) (EvS.if_pos (by omega) ?_));rw [akF vs i hlt,AN i (by omega)];refine EvS.if_pos (by simp only [ByteArray.size_append];omega) (EvS.if_pos (by simp only [ByteArray.size_append];omega) ?_);refine ih (i+1) _ res (by omega) (by omega) ?_ hs;rw [hr,List.drop_eq_getElem_cons hlt,List.flatMap_cons,P4];simp only [zY,List.append_assoc];rfl
 unfold dD.f
 exact H0 vs.length 0 ⟨#[]⟩ _ (by omega) (by omega) (by rw [List.drop_zero];rfl) hl
theorem ag6 (a b c d:List Rw6) (t:Int): ∀ f∈prF a b c d t,(f.f2=blkL a∨f.f2=blkL b∨f.f2=blkL c∨f.f2=blkL d)∧f.f0.data.toList.length≤4:=by
 intro f hf;unfold prF at hf
 split at hf<;>simp only [List.mem_cons,List.not_mem_nil,or_false] at hf<;>rcases hf with rfl|rfl|rfl|rfl<;>simp
theorem MP (l:List Rw6) (h:rzL l≤40):wfL (blkL l)=true∧(lsW (blkL l)).length≤240∧(spT (lsW (blkL l))).length≤1200∧(bodyL (blkL l)).length≤1203:=by
 obtain ⟨h1,h2⟩:=O7 l;refine ⟨GD l,by omega,by omega,?_⟩;rw [ET];simp only [List.length_append,List.length_cons,List.length_nil];omega
structure Few4 (a b c d:List Rw6):Prop where
 a1:rzL a≤40
 a2:rdL a≤12
 b1:rzL b≤40
 b2:rdL b≤12
 c1:rzL c≤40
 c2:rdL c≤12
 d1:rzL d≤40
 d2:rdL d≤12
theorem Few4.body {a b c d:List Rw6} (h:Few4 a b c d) (t:Int): ∀ f∈prF a b c d t,wfL f.f2=true∧(lsW f.f2).length≤240∧(spT (lsW f.f2)).length≤1200∧(bodyL f.f2).length≤1203:=by
 intro f hf;rcases (ag6 a b c d t f hf).1 with e|e|e|e<;>rw [e]
 ·exact MP a h.a1
 ·exact MP b h.b1
 ·exact MP c h.c1
 ·exact MP d h.d1
theorem Few4.wfF {a b c d:List Rw6} (h:Few4 a b c d) (t:Int):wfF (prF a b c d t):=aw9 a b c d t h.a2 h.b2 h.c2 h.d2
theorem Few4.text {a b c d:List Rw6} (h:Few4 a b c d) (t:Int):(textL prV (prL t) (prF a b c d t)).length≤6000:=by
 have h1:(prV.flatMap (declL varT)).length=18:=by decide
 have h2:((prL t).flatMap (declL lockT)).length=21:=by unfold prL;split<;>decide
 have hF: ∀ f∈prF a b c d t,(funcL f).length≤1218:=by
  intro f hf;have h3:=(h.body t f hf).2.2.2;have h4:=(ag6 a b c d t f hf).2;rw [U7];have hfl:funcT.data.toList.length=4:=rfl;simp only [List.length_append,List.length_cons,List.length_nil,hfl];omega
 have h4:((prF a b c d t).flatMap funcL).length≤4872:=by
  have key: ∀ L:List Fn6,(∀ f∈L,(funcL f).length≤1218)→(L.flatMap funcL).length≤1218 * L.length:=by
   intro L;induction L with
   |nil=>simp
   |cons x r ih=>
    intro hL;have h5:=hL x (by simp);have h6:=ih fun f hf=>hL f (by simp [hf])
    simp only [List.flatMap_cons,List.length_append,List.length_cons];omega
  have:=key _ hF;have hl:(prF a b c d t).length=4:=by unfold prF;split<;>rfl
  rw [hl] at this;omega
 unfold textL
 simp only [List.length_append];omega
theorem Few4.rText {a b c d:List Rw6} (h:Few4 a b c d) (t:Int):EvS (fun k=>dD.f k prV (prL t) (prF a b c d t)) ⟨(textL prV (prL t) (prF a b c d t)).toArray⟩:=by
 have h1:=h.text t;refine at1 _ _ _ (fun f hf=>?_) (by omega) (by decide) (by unfold prL;split<;>decide) (by unfold prF;split<;>exact (by decide:4≤1000000));obtain ⟨h2,_,h3,_⟩:=h.body t f hf;exact ⟨h2,by omega⟩
theorem Few4.Prog {a b c d:List Rw6} (h:Few4 a b c d) (t:Int):EvS (fun k=>fR.f k a b c d t) (prV,prL t,prF a b c d t):=by
 obtain ⟨_,_,_,_,_,_,_,_⟩:=h;exact axL a b c d t (by omega) (by omega) (by omega) (by omega)
end Go.Proofs.YtkmafndljelopaaDoor.Q
