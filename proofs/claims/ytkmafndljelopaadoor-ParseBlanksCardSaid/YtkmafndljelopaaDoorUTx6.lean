/- Chapter 6's Text and Body, in plain words: they are the program's own. -/
import Derived.Test.YtkmafndljelopaaDoorUBlk
import Derived.Test.YtkmafndljelopaaDoorUQ6
import Derived.Test.YtkmafndljelopaaDoorUQ5
namespace Go.Proofs.YtkmafndljelopaaDoor.Q
open Go.RowKit Go.Proofs.YtkmafndljelopaaDoorW.PrintWords Go.Proofs.YtkmafndljelopaaDoorW.PrintLast Go.Proofs.YtkmafndljelopaaDoorW.PrintMore Go.Proofs.YtkmafndljelopaaDoor.Lx
set_option linter.unusedVariables false
set_option linter.unusedSimpArgs false
theorem join_snoc: ∀ (ws:List ByteArray) (z:ByteArray),Lib.join ((ws++ [z]).map (·.data.toList)) [32]=spT ws++z.data.toList
 |[],z=>by simp [Lib.join,List.intercalate,spT]
 |[w],z=>by
  simp only [List.cons_append,List.nil_append,List.map_cons,List.map_nil];rw [join_cons2,spT_cons];simp [Lib.join,List.intercalate,spT]
 |w::v::r,z=>by
  have ih:=join_snoc (v::r) z;simp only [List.cons_append,List.map_cons] at ih ⊢;rw [join_cons2,ih,spT_cons w];simp
theorem bodyL_eq (l:List St6):bodyL l= [123,32]++(spT (lsW l)++ [125]):=by
 unfold bodyL blW
 rw [← List.cons_append,join_snoc,spT_cons];rfl
theorem spT_blW (l:List St6):spT (blW l)=bodyL l++ [32]:=by
 rw [bodyL_eq,blW,spT_cons,spT_app];simp [spT,openB,closeB]
theorem Verb_f (k:Int) (h0:1≤k) (h1:k≤8):deadboltref6_Verb.f k=some (verbC k):=by
 obtain ⟨m,rfl⟩: ∃ m:Nat,k=m:=⟨k.toNat,by omega⟩;have hm:m<9:=by omega
 have hp:1≤m:=by omega
 clear h0 h1;revert m
 decide+kernel
theorem wf_kind {s:St6} (hw:wfS s=true):1≤s.f0∧s.f0≤8:=by
 obtain ⟨k,a,nm,A,B⟩:=s;simp only [wfS] at hw;show 1≤k∧k≤8
 by_cases h8:k=8
 ·omega
 ·rw [if_neg h8] at hw;by_cases h7:k=7
  ·omega
  ·rw [if_neg h7] at hw;simp only [Bool.and_eq_true,decide_eq_true_eq] at hw;omega
theorem wf_in {s:St6} (hw:wfS s=true):wfL s.f3=true∧wfL s.f4=true:=by
 obtain ⟨k,a,nm,A,B⟩:=s;simp only [wfS] at hw;show wfL A=true∧wfL B=true
 by_cases h8:k=8
 ·rw [if_pos h8] at hw;simp only [Bool.and_eq_true,List.isEmpty_iff] at hw;exact ⟨hw.2.2,by rw [hw.2.1];rfl⟩
 ·rw [if_neg h8] at hw;by_cases h7:k=7
  ·rw [if_pos h7] at hw;simp only [Bool.and_eq_true] at hw;exact hw.2
  ·rw [if_neg h7] at hw;simp only [Bool.and_eq_true,List.isEmpty_iff] at hw;exact ⟨by rw [hw.2.2.2.1];rfl,by rw [hw.2.2.2.2];rfl⟩
theorem wf_mem: ∀ {l:List St6},wfL l=true→ ∀ s∈l,wfS s=true
 |s::r,h,x,hx=>by
  simp only [wfL,Bool.and_eq_true] at h;rcases List.mem_cons.1 hx with rfl|hx
  ·exact h.1
  ·exact wf_mem h.2 x hx
theorem words_le (ws:List ByteArray):ws.length≤(spT ws).length:=by
 induction ws with
 |nil=>simp
 |cons a r ih=>rw [spT_cons];simp only [List.length_cons,List.length_append,List.length_nil];omega
theorem spT_in (l:List St6) (i:Nat) (h:i<l.length):(spT (stW l[i])).length≤(spT (lsW l)).length:=by
 have:lsW l=lsW (l.take i)++lsW (l.drop i):=by rw [← lsW_append,List.take_append_drop]
 rw [this,lsW_drop l i h,spT_app,spT_app];simp only [List.length_append];omega
theorem ba_len (b:ByteArray):b.size=b.data.toList.length:=by rw [Array.length_toList];rfl
theorem app_toList (a b:ByteArray):(a++b).data.toList=a.data.toList++b.data.toList:=by rw [ByteArray.data_append,Array.toList_append]
set_option maxHeartbeats 1000000 in
theorem rblock_ev (l:List St6) (hw:wfL l=true) (hb:(spT (lsW l)).length≤900000):EvS (fun k=>deadboltref6_block.f k l) ⟨(bodyL l).toArray⟩:=by
 have hll:=lsW_len l;have hll2:=words_le (lsW l);have H: ∀ (m i:Nat) (acc res:ByteArray),l.length - i=m→i≤l.length→acc.size+(spT (lsW (l.drop i))).length≤2000000→res.data.toList=acc.data.toList++(spT (lsW (l.drop i))++ [125])→
   EvS (fun k=>deadboltref6_block.l0 k l acc (i:Int)) res:=by
  intro m;induction m with
  |zero=>
   intro i acc res hm hi ha hr;obtain rfl:i=l.length:=by omega
   refine EvS.succ ?_
   simp only [deadboltref6_block.l0];refine EvS.if_neg (by omega) (EvS.if_pos (by omega) ?_);have:acc++(⟨#[125]⟩:ByteArray)=res:=by
    apply ba_ext;rw [hr,app_toList,List.drop_length];rfl
   rw [this];exact .some_ _
  |succ m ih=>
   intro i acc res hm hi ha hr;have hlt:i<l.length:=by omega
   have hmem:l[i]∈l:=List.getElem_mem hlt;have hws:=wf_mem hw _ hmem;obtain ⟨hk1,hk8⟩:=wf_kind hws;obtain ⟨hwA,hwB⟩:=wf_in hws;have hi6:i≤1000000:=by omega
   have hin:=spT_in l i hlt;have hs1:SizeOf.sizeOf l[i].f3<SizeOf.sizeOf l:=by
    have h1:=List.sizeOf_lt_of_mem hmem;have h2:SizeOf.sizeOf l[i].f3<SizeOf.sizeOf l[i]:=by cases l[i];simp;omega
    omega
   have hs2:SizeOf.sizeOf l[i].f4<SizeOf.sizeOf l:=by
    have h1:=List.sizeOf_lt_of_mem hmem;have h2:SizeOf.sizeOf l[i].f4<SizeOf.sizeOf l[i]:=by cases l[i];simp;omega
    omega
   rw [lsW_drop l i hlt,spT_app] at ha hr;rw [List.length_append] at ha;have next: ∀ acc':ByteArray,acc'.data.toList=acc.data.toList++spT (stW l[i])→EvS (fun k=>deadboltref6_block.l0 k l acc' (wrap64 ((i:Int)+1))) res:=by
    intro acc' h;rw [w64_1 i hi6];have h1:=ba_len acc;have h2:=ba_len acc';rw [h,List.length_append] at h2;refine ih (i+1) acc' res (by omega) (by omega) (by omega) ?_
    rw [hr,h];simp only [List.append_assoc]
   have hv:=verb_len l[i].f0 hk1 hk8;have hvs:=ba_len (verbC l[i].f0);have h32:(⟨#[32]⟩:ByteArray).size=1:=rfl;have hel:(⟨#[101,108,115,101,32]⟩:ByteArray).size=5:=rfl;have hse:=stW_eq l[i];refine EvS.succ ?_
   simp only [deadboltref6_block.l0];refine EvS.if_pos (by omega) (EvS.if_pos (by omega) ?_);rw [rd_mem l i hlt];refine EvS.bind1 (Verb_f _ hk1 hk8) (EvS.if_pos (by omega) (EvS.if_pos (by rw [ByteArray.size_append];omega) ?_));by_cases h7:l[i].f0=7
   ·rw [if_neg (by omega),if_pos h7] at hse;have hb1:((⟨(bodyL l[i].f3).toArray⟩:ByteArray)).size=(bodyL l[i].f3).length:=rfl;have hb2:(bodyL l[i].f3).length=(spT (lsW l[i].f3)).length+3:=by rw [bodyL_eq];simp
    have hle:=lsW_len l[i].f3;by_cases he:l[i].f4= []
    ·have hse1:spT (stW l[i])=(verbC l[i].f0).data.toList++([32]++(bodyL l[i].f3++ [32])):=by
      rw [hse,he];simp only [List.isEmpty_nil,if_true,List.append_nil,spT_cons,spT_blW,List.append_assoc]
     have hl1:=congrArg List.length hse1;simp only [List.length_append,List.length_cons,List.length_nil] at hl1;refine EvS.if_pos h7 (EvS.bind (rblock_ev _ hwA (by omega)) (EvS.if_pos (by simp only [ByteArray.size_append];omega) (EvS.if_pos (by simp only [ByteArray.size_append];omega) (EvS.if_neg (by rw [he];simp) ?_))));exact next _ (by rw [hse1];simp only [app_toList,List.append_assoc])
    ·have hle4:=lsW_len l[i].f4;have hb3:((⟨(bodyL l[i].f4).toArray⟩:ByteArray)).size=(bodyL l[i].f4).length:=rfl;have hb4:(bodyL l[i].f4).length=(spT (lsW l[i].f4)).length+3:=by rw [bodyL_eq];simp
     have hne:l[i].f4.isEmpty=false:=by cases h:l[i].f4<;>simp_all
     have hse1:spT (stW l[i])=(verbC l[i].f0).data.toList++([32]++(bodyL l[i].f3++([32]++([101,108,115,101,32]++(bodyL l[i].f4++ [32]))))):=by
      rw [hse,hne];simp only [Bool.false_eq_true,if_false,spT_cons,spT_app,spT_blW,List.append_assoc];rfl
     have hl1:=congrArg List.length hse1;simp only [List.length_append,List.length_cons,List.length_nil] at hl1;have hp:0<l[i].f4.length:=List.length_pos_iff.2 he;refine EvS.if_pos h7 (EvS.bind (rblock_ev _ hwA (by omega)) (EvS.if_pos (by simp only [ByteArray.size_append];omega) (EvS.if_pos (by simp only [ByteArray.size_append];omega) (EvS.if_pos (by omega) (EvS.if_pos (by simp only [ByteArray.size_append];omega) ?_)))));refine EvS.bind (rblock_ev _ hwB (by omega)) (EvS.if_pos (by simp only [ByteArray.size_append];omega) (EvS.if_pos (by simp only [ByteArray.size_append];omega) ?_));exact next _ (by rw [hse1];simp only [app_toList,List.append_assoc])
   ·refine EvS.if_neg h7 ?_
    by_cases h8:l[i].f0=8
    ·rw [if_pos h8] at hse;have hb1:((⟨(bodyL l[i].f3).toArray⟩:ByteArray)).size=(bodyL l[i].f3).length:=rfl;have hb2:(bodyL l[i].f3).length=(spT (lsW l[i].f3)).length+3:=by rw [bodyL_eq];simp
     have hle:=lsW_len l[i].f3;have hse1:spT (stW l[i])=(verbC l[i].f0).data.toList++([32]++(bodyL l[i].f3++ [32])):=by
      rw [hse];simp only [spT_cons,spT_blW,List.append_assoc]
     have hl1:=congrArg List.length hse1;simp only [List.length_append,List.length_cons,List.length_nil] at hl1;refine EvS.if_pos h8 (EvS.bind (rblock_ev _ hwA (by omega)) (EvS.if_pos (by simp only [ByteArray.size_append];omega) (EvS.if_pos (by simp only [ByteArray.size_append];omega) ?_)));exact next _ (by rw [hse1];simp only [app_toList,List.append_assoc])
    ·rw [if_neg h8,if_neg h7] at hse;have hse1:spT (stW l[i])=(verbC l[i].f0).data.toList++([32]++(l[i].f2.data.toList++ [32])):=by
      rw [hse];simp [spT_cons,spT]
     have hl1:=congrArg List.length hse1;simp only [List.length_append,List.length_cons,List.length_nil] at hl1;have hb5:=ba_len l[i].f2;refine EvS.if_neg h8 (EvS.if_pos (by simp only [ByteArray.size_append];omega) (EvS.if_pos (by simp only [ByteArray.size_append];omega) ?_));exact next _ (by rw [hse1];simp only [app_toList,List.append_assoc])
 refine EvS.succ ?_
 simp only [deadboltref6_block.f];refine H l.length 0 ⟨#[123,32]⟩ _ (by omega) (by omega) ?_ ?_
 ·rw [List.drop_zero];show 2+_≤_
  omega
 ·rw [List.drop_zero,bodyL_eq]
termination_by SizeOf.sizeOf l
theorem rBody_ev (n:ByteArray) (a:Int) (l:List St6) (hw:wfL l=true) (hb:(spT (lsW l)).length≤900000):EvS (fun k=>deadboltref6_Body.f k n a l) ⟨(bodyL l).toArray⟩:=by
 unfold deadboltref6_Body.f
 exact EvS.bind (rblock_ev l hw hb) (.some_ _)
theorem rd_decl (l:List De6) (i:Nat) (h:i<l.length):rd_T59 l (i:Int)=l[i]:=by
 unfold rd_T59
 rw [Int.toNat_natCast,List.getD_eq_getElem?_getD,List.getElem?_eq_getElem h,Option.getD_some]
theorem rd_func (l:List Fn6) (i:Nat) (h:i<l.length):rd_T46 l (i:Int)=l[i]:=by
 unfold rd_T46
 rw [Int.toNat_natCast,List.getD_eq_getElem?_getD,List.getElem?_eq_getElem h,Option.getD_some]
theorem declL_eq (t:ByteArray) (d:De6):declL t d=t.data.toList++([32]++(d.f0.data.toList++ [10])):=by
 unfold declL lineL
 simp only [List.map_cons,List.map_nil];rw [join_cons2];simp [Lib.join,List.intercalate]
theorem funcL_eq (f:Fn6):funcL f=funcT.data.toList++([32]++(f.f0.data.toList++([32]++(bodyL f.f2++ [10])))):=by
 unfold funcL lineL
 simp only [List.map_cons,List.map_nil];rw [join_cons2,join_cons2];simp [Lib.join,List.intercalate]
set_option maxHeartbeats 1000000 in
theorem rText_ev (vs ls:List De6) (fs:List Fn6) (hf: ∀ f∈fs,wfL f.f2=true∧(spT (lsW f.f2)).length≤900000) (hl:(textL vs ls fs).length≤1000000000) (h1:vs.length≤1000000) (h2:ls.length≤1000000) (h3:fs.length≤1000000):
  EvS (fun k=>deadboltref6_Text.f k vs ls fs) ⟨(textL vs ls fs).toArray⟩:=by
 have H2: ∀ (m i:Nat) (acc res:ByteArray),fs.length - i=m→i≤fs.length→res.data.toList=acc.data.toList++(fs.drop i).flatMap funcL→res.size≤1000000000→
   EvS (fun k=>deadboltref6_Text.l2 k acc (i:Int) vs ls fs) res:=by
  intro m;induction m with
  |zero=>
   intro i acc res hm hi hr hs;obtain rfl:i=fs.length:=by omega
   refine EvS.succ ?_
   simp only [deadboltref6_Text.l2];refine EvS.if_neg (by omega) ?_
   have:acc=res:=ba_ext (by rw [hr,List.drop_length];simp);rw [this];exact .some_ _
  |succ m ih=>
   intro i acc res hm hi hr hs;have hlt:i<fs.length:=by omega
   obtain ⟨hw,hb⟩:=hf _ (List.getElem_mem hlt);have hrl:=congrArg List.length hr;rw [← ba_len,List.drop_eq_getElem_cons hlt,List.flatMap_cons,funcL_eq] at hrl;have hfl:funcT.data.toList.length=4:=rfl;simp only [List.length_append,List.length_cons,List.length_nil,← ba_len acc,hfl,← ba_len fs[i].f0] at hrl;have e5:(⟨#[102,117,110,99,32]⟩:ByteArray).size=5:=rfl;have e1:(⟨#[32]⟩:ByteArray).size=1:=rfl;have hbs:((⟨(bodyL fs[i].f2).toArray⟩:ByteArray)).size=(bodyL fs[i].f2).length:=rfl;refine EvS.succ ?_
   simp only [deadboltref6_Text.l2];refine EvS.if_pos (by omega) (EvS.if_pos (by omega) (EvS.if_pos (by omega) ?_));rw [rd_func fs i hlt,w64_1 i (by omega)];refine EvS.if_pos (by simp only [ByteArray.size_append];omega) (EvS.if_pos (by simp only [ByteArray.size_append];omega) ?_);refine EvS.bind (rBody_ev _ _ _ hw hb) (EvS.if_pos (by simp only [ByteArray.size_append];omega) (EvS.if_pos (by simp only [ByteArray.size_append];omega) ?_));refine ih (i+1) _ res (by omega) (by omega) ?_ hs;rw [hr,List.drop_eq_getElem_cons hlt,List.flatMap_cons,funcL_eq];simp only [app_toList,List.append_assoc];rfl
 have H1: ∀ (m i:Nat) (acc res:ByteArray),ls.length - i=m→i≤ls.length→res.data.toList=acc.data.toList++((ls.drop i).flatMap (declL lockT)++fs.flatMap funcL)→res.size≤1000000000→
   EvS (fun k=>deadboltref6_Text.l1 k acc (i:Int) vs ls fs) res:=by
  intro m;induction m with
  |zero=>
   intro i acc res hm hi hr hs;obtain rfl:i=ls.length:=by omega
   refine EvS.succ ?_
   simp only [deadboltref6_Text.l1];refine EvS.if_neg (by omega) ?_
   exact H2 fs.length 0 acc res (by omega) (by omega) (by rw [hr,List.drop_length];simp) hs
  |succ m ih=>
   intro i acc res hm hi hr hs;have hlt:i<ls.length:=by omega
   have hrl:=congrArg List.length hr;rw [← ba_len,List.drop_eq_getElem_cons hlt,List.flatMap_cons,declL_eq] at hrl;have hfl:lockT.data.toList.length=4:=rfl;simp only [List.length_append,List.length_cons,List.length_nil,← ba_len acc,hfl,← ba_len ls[i].f0] at hrl;have e5:(⟨#[108,111,99,107,32]⟩:ByteArray).size=5:=rfl;refine EvS.succ ?_
   simp only [deadboltref6_Text.l1];refine EvS.if_pos (by omega) (EvS.if_pos (by omega) (EvS.if_pos (by omega) ?_));rw [rd_decl ls i hlt,w64_1 i (by omega)];refine EvS.if_pos (by simp only [ByteArray.size_append];omega) (EvS.if_pos (by simp only [ByteArray.size_append];omega) ?_);refine ih (i+1) _ res (by omega) (by omega) ?_ hs;rw [hr,List.drop_eq_getElem_cons hlt,List.flatMap_cons,declL_eq];simp only [app_toList,List.append_assoc];rfl
 have H0: ∀ (m i:Nat) (acc res:ByteArray),vs.length - i=m→i≤vs.length→res.data.toList=acc.data.toList++((vs.drop i).flatMap (declL varT)++(ls.flatMap (declL lockT)++fs.flatMap funcL))→res.size≤1000000000→
   EvS (fun k=>deadboltref6_Text.l0 k acc (i:Int) vs ls fs) res:=by
  intro m;induction m with
  |zero=>
   intro i acc res hm hi hr hs;obtain rfl:i=vs.length:=by omega
   refine EvS.succ ?_
   simp only [deadboltref6_Text.l0];refine EvS.if_neg (by omega) ?_
   exact H1 ls.length 0 acc res (by omega) (by omega) (by rw [hr,List.drop_length];simp) hs
  |succ m ih=>
   intro i acc res hm hi hr hs;have hlt:i<vs.length:=by omega
   have hrl:=congrArg List.length hr;rw [← ba_len,List.drop_eq_getElem_cons hlt,List.flatMap_cons,declL_eq] at hrl;have hfl:varT.data.toList.length=3:=rfl;simp only [List.length_append,List.length_cons,List.length_nil,← ba_len acc,hfl,← ba_len vs[i].f0] at hrl;have e5:(⟨#[118,97,114,32]⟩:ByteArray).size=4:=rfl;refine EvS.succ ?_
   simp only [deadboltref6_Text.l0];refine EvS.if_pos (by omega) (EvS.if_pos (by omega) (EvS.if_pos (by omega) ?_));rw [rd_decl vs i hlt,w64_1 i (by omega)];refine EvS.if_pos (by simp only [ByteArray.size_append];omega) (EvS.if_pos (by simp only [ByteArray.size_append];omega) ?_);refine ih (i+1) _ res (by omega) (by omega) ?_ hs;rw [hr,List.drop_eq_getElem_cons hlt,List.flatMap_cons,declL_eq];simp only [app_toList,List.append_assoc];rfl
 unfold deadboltref6_Text.f
 exact H0 vs.length 0 ⟨#[]⟩ _ (by omega) (by omega) (by rw [List.drop_zero];rfl) hl
theorem prF_fn (a b c d:List Rw6) (t:Int): ∀ f∈prF a b c d t,(f.f2=blkL a∨f.f2=blkL b∨f.f2=blkL c∨f.f2=blkL d)∧f.f0.data.toList.length≤4:=by
 intro f hf;unfold prF at hf
 split at hf<;>simp only [List.mem_cons,List.not_mem_nil,or_false] at hf<;>rcases hf with rfl|rfl|rfl|rfl<;>simp
theorem body_len (l:List Rw6) (h:rzL l≤40):wfL (blkL l)=true∧(lsW (blkL l)).length≤240∧(spT (lsW (blkL l))).length≤1200∧(bodyL (blkL l)).length≤1203:=by
 obtain ⟨h1,h2⟩:=blkL_len l;refine ⟨blkL_wf l,by omega,by omega,?_⟩;rw [bodyL_eq];simp only [List.length_append,List.length_cons,List.length_nil];omega
structure Few4 (a b c d:List Rw6):Prop where
 a1:rzL a≤40
 a2:rdL a≤12
 b1:rzL b≤40
 b2:rdL b≤12
 c1:rzL c≤40
 c2:rdL c≤12
 d1:rzL d≤40
 d2:rdL d≤12
theorem Few4.body {a b c d:List Rw6} (h:Few4 a b c d) (t:Int): ∀ f∈prF a b c d t,wfL f.f2=true∧(lsW f.f2).length≤240∧(spT (lsW f.f2)).length≤1200∧(bodyL f.f2).length≤1203:=by
 intro f hf;rcases (prF_fn a b c d t f hf).1 with e|e|e|e<;>rw [e]
 ·exact body_len a h.a1
 ·exact body_len b h.b1
 ·exact body_len c h.c1
 ·exact body_len d h.d1
theorem Few4.wfF {a b c d:List Rw6} (h:Few4 a b c d) (t:Int):wfF (prF a b c d t):=prF_ok a b c d t h.a2 h.b2 h.c2 h.d2
theorem Few4.text {a b c d:List Rw6} (h:Few4 a b c d) (t:Int):(textL prV (prL t) (prF a b c d t)).length≤6000:=by
 have h1:(prV.flatMap (declL varT)).length=18:=by decide
 have h2:((prL t).flatMap (declL lockT)).length=21:=by unfold prL;split<;>decide
 have hF: ∀ f∈prF a b c d t,(funcL f).length≤1218:=by
  intro f hf;have h3:=(h.body t f hf).2.2.2;have h4:=(prF_fn a b c d t f hf).2;rw [funcL_eq];have hfl:funcT.data.toList.length=4:=rfl;simp only [List.length_append,List.length_cons,List.length_nil,hfl];omega
 have h4:((prF a b c d t).flatMap funcL).length≤4872:=by
  have key: ∀ L:List Fn6,(∀ f∈L,(funcL f).length≤1218)→(L.flatMap funcL).length≤1218 * L.length:=by
   intro L;induction L with
   |nil=>simp
   |cons x r ih=>
    intro hL;have h5:=hL x (by simp);have h6:=ih fun f hf=>hL f (by simp [hf])
    simp only [List.flatMap_cons,List.length_append,List.length_cons];omega
  have:=key _ hF;have hl:(prF a b c d t).length=4:=by unfold prF;split<;>rfl
  rw [hl] at this;omega
 unfold textL
 simp only [List.length_append];omega
theorem lsK_wf: ∀ n,(∀ s:St6,szS s≤n→wfS s=true→stK s=true)∧(∀ l:List St6,szL l≤n→wfL l=true→lsK l=true):=by
 intro n;induction n with
 |zero=>
  refine ⟨fun s h=>by rw [szS_eq] at h;omega,fun l h _=>?_⟩;cases l with
  |nil=>rfl
  |cons s r=>simp only [szL] at h;have:=szS_eq s;omega
 |succ n ih=>
  have hS: ∀ s:St6,szS s≤n+1→wfS s=true→stK s=true:=by
   intro s h hw;rw [szS_eq] at h;obtain ⟨h1,h2⟩:=wf_kind hw;obtain ⟨h3,h4⟩:=wf_in hw;rw [stK_eq,ih.2 _ (by omega) h3,ih.2 _ (by omega) h4];simp [h1,h2]
  refine ⟨hS,fun l h hw=>?_⟩;induction l with
  |nil=>rfl
  |cons s r ih2=>
   simp only [wfL,Bool.and_eq_true] at hw;simp only [szL] at h;rw [lsK,hS s (by omega) hw.1,ih2 (by omega) hw.2];rfl
theorem wf_lsK {l:List St6} (h:wfL l=true):lsK l=true:=(lsK_wf _).2 l (Nat.le_refl _) h
theorem Few4.Text {a b c d:List Rw6} (h:Few4 a b c d) (t:Int):parse_Text.f prV (prL t) (prF a b c d t)=some ⟨(textL prV (prL t) (prF a b c d t)).toArray⟩:=by
 have h1:=h.text t;unfold parse_Text.f
 rw [if_pos];unfold textOk
 simp only [Bool.and_eq_true,decide_eq_true_eq,List.all_eq_true];refine ⟨by omega,fun f hf=>?_⟩;obtain ⟨h2,h3,_⟩:=h.body t f hf;exact ⟨wf_lsK h2,by omega⟩
theorem Few4.rText {a b c d:List Rw6} (h:Few4 a b c d) (t:Int):EvS (fun k=>deadboltref6_Text.f k prV (prL t) (prF a b c d t)) ⟨(textL prV (prL t) (prF a b c d t)).toArray⟩:=by
 have h1:=h.text t;refine rText_ev _ _ _ (fun f hf=>?_) (by omega) (by decide) (by unfold prL;split<;>decide) (by unfold prF;split<;>exact (by decide:4≤1000000));obtain ⟨h2,_,h3,_⟩:=h.body t f hf;exact ⟨h2,by omega⟩
theorem Few4.Prog {a b c d:List Rw6} (h:Few4 a b c d) (t:Int):EvS (fun k=>deadboltlaw6_Prog.f k a b c d t) (prV,prL t,prF a b c d t):=by
 obtain ⟨_,_,_,_,_,_,_,_⟩:=h;exact Prog_ev a b c d t (by omega) (by omega) (by omega) (by omega)
end Go.Proofs.YtkmafndljelopaaDoor.Q
