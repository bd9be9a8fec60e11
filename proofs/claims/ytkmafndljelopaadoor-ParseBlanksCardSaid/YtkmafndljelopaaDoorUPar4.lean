/- Par4: put together by wip/merge.py. -/
import Derived.Test.YtkmafndljelopaaDoorUQ10
import Derived.Test.YtkmafndljelopaaDoorUPar3
import Derived.Test.YtkmafndljelopaaDoorUEv
import Derived.Test.YtkmafndljelopaaDoorUShelf2
import Derived.Lib.Strings
import Derived.Lib.Walk
import Derived.Lib.Builder
import Derived.Lib.AppendStr
import Derived.Lib.UnsafeStr
import Derived.WalkKit
import Derived.Laws.Externs
namespace Go.Proofs.YtkmafndljelopaaDoor.Q
open Go.RowKit Go.Proofs.YtkmafndljelopaaDoorW.PrintWords Go.Proofs.YtkmafndljelopaaDoorW.PrintLast Go.Proofs.YtkmafndljelopaaDoorW.PrintMore Go.Proofs.YtkmafndljelopaaDoor.Lx
set_option linter.unusedVariables false
set_option linter.unusedSimpArgs false
def openB:ByteArray:=⟨#[123]⟩
def closeB:ByteArray:=⟨#[125]⟩
mutual
/-- a statement's words -/
def stW:St6→List ByteArray
 |⟨k,_,nm,A,B⟩=>verbC k::(if k=8 then openB::(lsW A++ [closeB]) else if k=7 then (openB::(lsW A++ [closeB]))++(if B.isEmpty then [] else elseT::openB::(lsW B++ [closeB])) else [nm])
def lsW:List St6→List ByteArray
 |[]=>[]
 |s::r=>stW s++lsW r
end
def blW (l:List St6):List ByteArray:=openB::(lsW l++ [closeB])
mutual
/-- its kinds are those of statements -/
def stK:St6→Bool
 |⟨k,_,_,A,B⟩=>decide (1≤k) && (decide (k≤8) && (lsK A && lsK B))
def lsK:List St6→Bool
 |[]=>true
 |s::r=>stK s && lsK r
end
theorem stW_eq (s:St6):stW s=verbC s.f0::(if s.f0=8 then blW s.f3 else if s.f0=7 then blW s.f3++(if s.f4.isEmpty then [] else elseT::blW s.f4) else [s.f2]):=by
 cases s;simp only [stW,blW]
theorem stK_eq (s:St6):stK s=(decide (1≤s.f0) && (decide (s.f0≤8) && (lsK s.f3 && lsK s.f4))):=by
 cases s;simp only [stK]
theorem lsW_append (a b:List St6):lsW (a++b)=lsW a++lsW b:=by
 induction a with
 |nil=>simp [lsW]
 |cons s r ih=>simp only [List.cons_append,lsW,ih,List.append_assoc]
theorem lsK_mem {l:List St6} (h:lsK l=true): ∀ s∈l,stK s=true:=by
 induction l with
 |nil=>simp
 |cons s r ih=>
  simp only [lsK,Bool.and_eq_true] at h;intro x hx;rcases List.mem_cons.1 hx with rfl|hx
  ·exact h.1
  ·exact ih h.2 x hx
theorem stW_len (s:St6):1≤(stW s).length:=by rw [stW_eq];simp
theorem lsW_drop (l:List St6) (i:Nat) (h:i<l.length):lsW (l.drop i)=stW l[i]++lsW (l.drop (i+1)):=by
 rw [List.drop_eq_getElem_cons h,lsW]
theorem lsW_len (l:List St6):l.length≤(lsW l).length:=by
 induction l with
 |nil=>simp
 |cons s r ih=>have:=stW_len s;simp only [lsW,List.length_append,List.length_cons];omega
theorem rd_mem (l:List St6) (i:Nat) (h:i<l.length):rd_T86 l (i:Int)=l[i]:=by
 unfold rd_T86
 rw [Int.toNat_natCast,List.getD_eq_getElem?_getD,List.getElem?_eq_getElem h,Option.getD_some]
theorem words_ev (l:List St6) (hk:lsK l=true) (hb:(lsW l).length+2≤8796093022208):EvS (fun k=>parse_words.f k l) (blW l):=by
 have hll:=lsW_len l;have H: ∀ (d i:Nat) (acc:List ByteArray),l.length - i=d→i≤l.length→acc.length+(lsW (l.drop i)).length+1≤8796093022208→EvS (fun k=>parse_words.l0 k acc l (l.length:Int) (i:Int)) (acc++lsW (l.drop i)++ [closeB]):=by
  intro d;induction d with
  |zero=>
   intro i acc hd hi ha;obtain rfl:i=l.length:=by omega
   rw [List.drop_length] at ha ⊢;refine EvS.succ ?_
   simp only [parse_words.l0];refine EvS.if_neg (by omega) (EvS.if_pos (by simp only [lsW,List.length_nil] at ha;omega) ?_);simp only [lsW,List.append_nil];exact .some_ _
  |succ d ih=>
   intro i acc hd hi ha;have hlt:i<l.length:=by omega
   have hw:wrap64 ((i:Int)+1)=((i+1:Nat):Int):=by rw [w64 (by omega)];omega
   have hmem:l[i]∈l:=List.getElem_mem hlt;have hsk:=lsK_mem hk _ hmem;rw [stK_eq] at hsk;simp only [Bool.and_eq_true,decide_eq_true_eq] at hsk;obtain ⟨hk1,hk2,hk3,hk4⟩:=hsk;have hs1:SizeOf.sizeOf l[i].f3<SizeOf.sizeOf l:=by
    have h1:=List.sizeOf_lt_of_mem hmem;have h2:SizeOf.sizeOf l[i].f3<SizeOf.sizeOf l[i]:=by cases l[i];simp;omega
    omega
   have hs2:SizeOf.sizeOf l[i].f4<SizeOf.sizeOf l:=by
    have h1:=List.sizeOf_lt_of_mem hmem;have h2:SizeOf.sizeOf l[i].f4<SizeOf.sizeOf l[i]:=by cases l[i];simp;omega
    omega
   rw [lsW_drop l i hlt] at ha ⊢;have hse:=stW_eq l[i];refine EvS.succ ?_
   simp only [parse_words.l0];refine EvS.if_pos (by omega) (EvS.if_pos (by omega) (EvS.if_pos (by omega) ?_));rw [rd_mem l i hlt,hw];refine EvS.bind1 (a:=verbC l[i].f0) (by unfold parse_word.f;rw [if_pos ⟨hk1,hk2⟩]) ?_
   simp only [List.length_append] at ha;have h1:=stW_len l[i];refine EvS.if_pos (by omega) ?_
   simp only [Option.bind_some];have next: ∀ (acc':List ByteArray),acc'=acc++stW l[i]→EvS (fun k=>parse_words.l0 k acc' l (l.length:Int) ((i+1:Nat):Int)) (acc++(stW l[i]++lsW (l.drop (i+1)))++ [closeB]):=by
    rintro _ rfl
    have:=ih (i+1) (acc++stW l[i]) (by omega) (by omega) (by simp only [List.length_append];omega);rwa [← List.append_assoc]
   by_cases h8:l[i].f0=8
   ·have hse8:stW l[i]=verbC l[i].f0::blW l[i].f3:=by rw [hse,if_pos h8]
    have hl8:(stW l[i]).length=1+((lsW l[i].f3).length+2):=by rw [hse8];simp [blW];omega
    refine EvS.if_pos h8 (EvS.bind (words_ev _ hk3 (by omega)) (EvS.if_pos (by simp [blW];omega) ?_));exact next _ (by rw [hse8];simp)
   ·by_cases h7:l[i].f0=7
    ·refine EvS.if_neg h8 (EvS.if_pos h7 ?_);by_cases he:l[i].f4= []
     ·have hse7:stW l[i]=verbC l[i].f0::blW l[i].f3:=by rw [hse,if_neg h8,if_pos h7,he];simp
      have hl7:(stW l[i]).length=1+((lsW l[i].f3).length+2):=by rw [hse7];simp [blW];omega
      refine EvS.bind (words_ev _ hk3 (by omega)) (EvS.if_pos (by simp [blW];omega) ?_);try simp only [Option.bind_some]
      refine EvS.if_neg (by rw [he];simp) ?_
      exact next _ (by rw [hse7];simp)
     ·have hne:l[i].f4.isEmpty=false:=by cases h:l[i].f4<;>simp_all
      have hse7:stW l[i]=verbC l[i].f0::(blW l[i].f3++(elseT::blW l[i].f4)):=by rw [hse,if_neg h8,if_pos h7,hne];simp
      have hl7:(stW l[i]).length=1+((lsW l[i].f3).length+2)+(1+((lsW l[i].f4).length+2)):=by rw [hse7];simp [blW];omega
      refine EvS.bind (words_ev _ hk3 (by omega)) (EvS.if_pos (by simp [blW];omega) ?_);try simp only [Option.bind_some]
      refine EvS.if_pos (by have:0<l[i].f4.length:=List.length_pos_iff.2 he;omega) (EvS.if_pos (by simp [blW];omega) ?_);refine EvS.bind (words_ev _ hk4 (by omega)) (EvS.if_pos (by simp [blW];omega) ?_);exact next _ (by rw [hse7];simp [elseT])
    ·have hse0:stW l[i]=verbC l[i].f0:: [l[i].f2]:=by rw [hse,if_neg h8,if_neg h7]
     have hl0:(stW l[i]).length=2:=by rw [hse0];simp
     refine EvS.if_neg h8 (EvS.if_neg h7 (EvS.if_pos (by simp;omega) ?_));exact next _ (by rw [hse0];simp)
 refine EvS.succ ?_
 simp only [parse_words.f];have:=H l.length 0 [openB] (by omega) (by omega) (by simp only [List.drop_zero,List.length_cons,List.length_nil];omega);rw [List.drop_zero] at this;exact this
termination_by SizeOf.sizeOf l
theorem bu_size:(Tryd.prog.info? 90).map (·.size)=some 2:=by kernel_rfl
theorem bu_lies:liesAt Tryd.prog Tryd.prog.depth 90 (2 / Tryd.prog.cellsOf 90) 0 90 1=true:=by kernel_rfl
set_option maxHeartbeats 1000000 in
set_option maxRecDepth 100000 in
theorem check_used (b:Nat) (w:World) (h0:w.cell? ⟨b,0,none⟩=some (.pointer (some ⟨b,0,none⟩))):
  Calls Tryd.prog 75 #[.pointer (some ⟨b,0,none⟩)] w fun e w'=>e= .returned (.tuple #[])∧w=w':=by
 obtain ⟨j,hj,_⟩:=Option.map_eq_some_iff.1 bu_size;go_enter Tryd.func75,Tryd.ntmps75
 go_wp2
 rw [Lib.run_neq_ptr_same w _ Tryd.underlying88 hj];go_wp2
 go_end0
 exact ⟨rfl,rfl⟩
set_option maxHeartbeats 1000000 in
set_option maxRecDepth 100000 in
theorem check_fresh (b:Nat) (w:World) (h0:w.cell? ⟨b,0,none⟩=some (.pointer none)) (hsh:w.shape? b=some (90,2)) (hfz:w.frozen? ⟨b,0,none⟩=false):
  Calls Tryd.prog 75 #[.pointer (some ⟨b,0,none⟩)] w fun e w'=>e= .returned (.tuple #[])∧w.setCell ⟨b,0,none⟩ (.pointer (some ⟨b,0,none⟩))=w':=by
 obtain ⟨j,hj,hjs⟩:=Option.map_eq_some_iff.1 bu_size;go_enter Tryd.func75,Tryd.ntmps75
 go_wp2
 rw [Lib.run_to_unsafe w ⟨b,0,none⟩ Tryd.underlying88 Tryd.underlying121 hj (by rw [hjs];decide) hsh (Nat.zero_lt_succ 1)];simp only [Result.andThen];rw [Oper.upon_value];go_wp2
 rw [run_callFunc_extern Tryd.func86 (by kernel_rfl) (by kernel_rfl) (by kernel_rfl) (e:=Extern.AbiNoEscape.same) (by kernel_rfl)];rw [Lib.run_noEscape];simp only [Result.andThen];rw [Oper.upon_value];go_wp2
 rw [Lib.run_from_unsafe w ⟨b,0,none⟩ Tryd.underlying121 Tryd.underlying88 hj hsh bu_lies];simp only [Result.andThen];rw [Oper.upon_value];go_wp2
 go_end0
 exact ⟨rfl,rfl⟩
theorem check_calls (B b:Nat) (bs:List Value) (w:World) (h:Lib.IsBuilder 90 5 B b bs w):
  Calls Tryd.prog 75 #[.pointer (some ⟨b,0,none⟩)] w fun e w'=>e= .returned (.tuple #[])∧(Lib.BuilderAt 90 5 B b (.pointer (some ⟨b,0,none⟩)) bs w'∧Below B w w'):=by
 rcases h with h|h
 ·refine (check_fresh b w h.cell0 h.shape h.frozen0).mono ?_
  rintro e w' ⟨rfl,rfl⟩
  exact ⟨rfl,h.used _,(Below.refl B w).setCell (p:=⟨b,0,none⟩) h.1 _⟩
 ·refine (check_used b w h.cell0).mono ?_
  rintro e w' ⟨rfl,rfl⟩
  exact ⟨rfl,h,Below.refl B _⟩
set_option maxHeartbeats 2000000 in
set_option maxRecDepth 100000 in
theorem write_calls (B b:Nat) (bs:List Value) (s:ByteArray) (w:World) (h:Lib.IsBuilder 90 5 B b bs w) (hlen:bs.length+s.size≤140737488355328) (hBw:B≤w.heap.size):
  Calls Tryd.prog 46 #[.pointer (some ⟨b,0,none⟩),.string s] w fun e w'=>e= .returned (.tuple #[.int .i64 s.size,.nilIface])∧(Lib.BuilderAt 90 5 B b (.pointer (some ⟨b,0,none⟩)) (bs++Lib.strCells s) w'∧Below B w w'):=by
 obtain ⟨i0,hi,hzz⟩:=Option.map_eq_some_iff.1 (show (Tryd.prog.info? 5).map (fun i=>(i.zero,i.size,i.bytes))=some (some (.int .u8 0),1,1) by kernel_rfl);simp only [Prod.mk.injEq] at hzz;obtain ⟨hz0,hz1,hz2⟩:=hzz;go_enter Tryd.func46,Tryd.ntmps46
 go_wp2_with fail
 refine (check_calls B b bs _ h).mono ?_
 rintro e w1 ⟨rfl,h1,hb1⟩
 obtain ⟨hB,v,hbk,hown,hne⟩:=h1;have c0:w1.cell? ⟨b,0,none⟩=some (.pointer (some ⟨b,0,none⟩)):=by rw [Lib.cell_of_heap hbk];rfl
 have c1:w1.cell? ⟨b,1,none⟩=some v:=by rw [Lib.cell_of_heap hbk];rfl
 go_wp2_with (at_builtin;refine Lib.wpList_append_own_string _ rfl _ _ 32 9 rfl B 5 i0 Tryd.underlying32 Tryd.underlying9 hi hz0 hz1 hz2 _ _ _ rfl hown s rfl ?c3 ?c4 ?c5 ?_)
 case c3=>unfold maxLen;omega
 case c4=>omega
 case c5=>have:=hb1.size;omega
 intro v' w2 hown' hgrow _;have hlt:b<w1.heap.size:=by
  rcases Nat.lt_or_ge b w1.heap.size with h'|h'
  ·exact h'
  ·simp [Array.getElem?_eq_none h'] at hbk
 have hb2:w2.heap[b]? =some (.cells #[.pointer (some ⟨b,0,none⟩),v] 90 (0,0)):=by
  rw [hgrow.block b hlt (fun e=>hne e.symm)];exact hbk
 have d0:w2.cell? ⟨b,0,none⟩=some (.pointer (some ⟨b,0,none⟩)):=by rw [Lib.cell_of_heap hb2];rfl
 have d1:w2.cell? ⟨b,1,none⟩=some v:=by rw [Lib.cell_of_heap hb2];rfl
 have f1:w2.frozen? ⟨b,1,none⟩=false:=Lib.frozen_of_heap hb2 1;obtain ⟨ao,n',cap,rfl⟩: ∃ ao n' cap,v'= .slice ao n' cap:=by
  rcases hown'.2 with ⟨hv,_⟩|⟨g,cap,cur,hv,_⟩
  ·exact ⟨_,_,_,hv⟩
  ·exact ⟨_,_,_,hv⟩
 go_wp2
 go_ret2
 refine ⟨rfl,?_,?_⟩;·exact Lib.BuilderAt.put (T:=90) (e:=5) hB hb2 (bs':=bs++Lib.strCells s) (by simpa [Lib.strCells_length] using hown') (by decide)
 ·exact (hb1.grown hgrow (by have:=hb1.size;omega) (fun k hk=>(hown.lt k hk).1)).setCell (p:=⟨b,1,none⟩) hB _
theorem bu_below {T e:TypeId} {B b:Nat} {p:Value} {bs:List Value} {w w':World} (h:Lib.BuilderAt T e B b p bs w) (hb:Below w.heap.size w w'):Lib.BuilderAt T e B b p bs w':=by
 obtain ⟨hB,v,hbk,hown,hne⟩:=h;refine ⟨hB,v,blk_below hbk hb,hown.kept (row:=none) ⟨hb.os,hb.tape,hb.output,hb.size,fun k hk _=>hb.block k hk⟩ ?_,hne⟩;cases hv:v.ownBlock with
 |none=>exact .inl rfl
 |some k=>exact .inr (by simp)
theorem isbu_below {T e:TypeId} {B b:Nat} {bs:List Value} {w w':World} (h:Lib.IsBuilder T e B b bs w) (hb:Below w.heap.size w w'):Lib.IsBuilder T e B b bs w':=
 h.elim (fun h=>.inl (bu_below h hb)) (fun h=>.inr (bu_below h hb))
def lineL (ws:List ByteArray):List UInt8:=Lib.join (ws.map (·.data.toList)) [32]++ [10]
set_option maxRecDepth 20000 in
set_option maxHeartbeats 800000 in
theorem line_calls {B b g:Nat} {bs:List Value} {ws:List ByteArray} {w:World} (h:Lib.IsBuilder 90 5 B b bs w) (hBw:B≤w.heap.size) (hC:Kd.C Kd.string w (some ⟨g,0,none⟩) ws.length ws) (hws:ws≠ []) (hlen:bs.length+(lineL ws).length≤1000000000) (hwl:ws.length≤3):
  Calls Tryd.prog 45 #[.slice (some ⟨g,0,none⟩) ws.length ws.length,.pointer (some ⟨b,0,none⟩)] w fun e w'=>e= .returned (.tuple #[])∧Lib.IsBuilder 90 5 B b (bs++Lib.byteCells (lineL ws)) w'∧Below B w w':=by
 have HJ:Aside0 (strings_Join.f ws ⟨#[32]⟩=some ⟨(Lib.join (ws.map (·.data.toList)) [32]).toArray⟩):=⟨by
  unfold strings_Join.f
  rw [if_pos]
  ·refine ⟨by omega,?_⟩;simp only [lineL,List.length_append,List.length_cons,List.length_nil] at hlen;show (Lib.join (ws.map (·.data.toList)) [32]).length≤_
   omega⟩
 have HC:=Aside0.mk hC;have HB:=Aside0.mk h;have HL:=Aside0.mk hlen;have HBW:=Aside0.mk hBw;have hle:ws.length≤ws.length:=Nat.le_refl _;have HLE:=Aside0.mk hle;clear h hBw hC hlen hws hwl hle;go_enter Tryd.func45,Tryd.ntmps45
 go_wp2_with fail
 refine (strings_Join.calls _ _ ws _ _ _ HC.out HLE.out HJ.out).mono ?_
 rintro e w1 ⟨rfl,hb1⟩
 have HB1:=Aside0.mk hb1;have HI1:=Aside0.mk (isbu_below HB.out hb1);clear hb1;have hse:Lib.strCells (⟨(Lib.join (ws.map (·.data.toList)) [32]).toArray⟩++⟨#[10]⟩:ByteArray)=Lib.byteCells (lineL ws):=by
  rw [Lib.strCells_eq];simp [lineL,ByteArray.data_append]
 have hsz:(⟨(Lib.join (ws.map (·.data.toList)) [32]).toArray⟩++⟨#[10]⟩:ByteArray).size=(lineL ws).length:=by
  rw [← Lib.strCells_length,hse,Lib.byteCells_length]
 have hs1:(⟨(Lib.join (ws.map (·.data.toList)) [32]).toArray⟩:ByteArray).size+1=(lineL ws).length:=by
  rw [← hsz,ByteArray.size_append];rfl
 generalize (⟨(Lib.join (ws.map (·.data.toList)) [32]).toArray⟩:ByteArray)=s1 at hse hsz hs1 ⊢;have q1:(s1.size+1≤9223372036854775807)=True:=eq_true (by have:=HL.out;omega);have q2:(9223372036854775807<s1.size+1)=False:=eq_false (by have:=HL.out;omega);have q3:decide (s1.size+1≤9223372036854775807)=true:=decide_eq_true (by have:=HL.out;omega);have HSE:=Aside0.mk (And.intro hse hsz);clear hse hsz hs1 HJ;go_wp2_with fail
 clear q1 q2 q3;refine (write_calls B b bs _ _ HI1.out (by rw [HSE.out.2];have:=HL.out;omega) (Nat.le_trans HBW.out HB1.out.size)).mono ?_
 rintro e w2 ⟨rfl,h2,hb2⟩
 rw [HSE.out.1] at h2;have HI2:=Aside0.mk h2;have HB2:=Aside0.mk ((Below.mono HB1.out HBW.out).trans hb2);clear h2 hb2;go_wp2_with fail
 go_end0
 exact ⟨rfl,.inr HI2.out,HB2.out⟩
def bodyL (b:List St6):List UInt8:=Lib.join ((blW b).map (·.data.toList)) [32]
def declL (t:ByteArray) (d:De6):List UInt8:=lineL [t,d.f0]
def funcL (f:Fn6):List UInt8:=lineL [funcT,f.f0,⟨(bodyL f.f2).toArray⟩]
def textL (vs ls:List De6) (fs:List Fn6):List UInt8:=vs.flatMap (declL varT)++(ls.flatMap (declL lockT)++fs.flatMap funcL)
def textOk (vs ls:List De6) (fs:List Fn6):Bool:=decide ((textL vs ls fs).length≤1000000000) && fs.all fun f=>lsK f.f2 && decide ((lsW f.f2).length≤1000000)
def parse_Text.f (vs ls:List De6) (fs:List Fn6):Option ByteArray:=if textOk vs ls fs=true then some ⟨(textL vs ls fs).toArray⟩ else none
theorem body_ev (n:ByteArray) (a:Int) (b:List St6) (hk:lsK b=true) (hb:(lsW b).length≤1000000) (hl:(bodyL b).length≤1000000000): ∃ k,parse_Body.f k n a b=some ⟨(bodyL b).toArray⟩:=by
 refine EvS.exists_ ?_
 unfold parse_Body.f
 refine EvS.bind (words_ev b hk (by omega)) ?_
 refine EvS.bind1 (a:=⟨(bodyL b).toArray⟩) ?_ (.some_ _)
 unfold strings_Join.f
 rw [if_pos];·rfl
 ·refine ⟨by simp only [blW,List.length_cons,List.length_append,List.length_nil];omega,?_⟩;show (bodyL b).length≤_
  omega
theorem goesC_ {P:Program} {ops:Array Oper} {Q:Exit→Act→World→Prop} {oi:Oper} {N:Option Tmp} {a:Act} {w:World} {K:Act→World→Prop} {f:FuncId} {fn:Func} {c:Operand} {as_:Array Operand} {ts:Array TypeId} {cap:Array Value} (hf:P.funcs[f]? =some fn) (hname:(fn.name== "runtime.NumGoroutine")=false) (hb:fn.body.isSome=true) (args0 args:Array Value)
  (hw:Region.wanted oi (yielded ops a.tmps)=true) (hN:oi.dst=N) (hop:oi.op= .call { callee:=.value c,args:=as_,argTypes:=ts }) (hc:a.eval c= .func (.func f) #[] cap) (hargs:as_.map a.eval=args0) (hall:args0++cap=args)
  (h:Calls P f args w fun e w'=>∃ v,e= .returned v∧K (a.put N v) w'):if Region.wanted oi (yielded ops a.tmps)=true then Oper.wp P oi a w K Q else K (a.put N undef) w:=by
 refine call_ f args hw hN ?_ h;have he:=enters_ hf hname hb args w;subst hall;unfold execOp
 simp [hop,resolve,Deferred.ofValue,invoke,hc,hargs,he]
structure TI (w wr:World) (b:Nat) (s1 s2 s3:Value) (l:List UInt8):Prop where
 blk:wr.heap[w.heap.size]? =some (.cells #[s1,s2,s3] 30 (0,0))
 bu:Lib.IsBuilder 90 5 b b (Lib.byteCells l) wr
 bel:Below w.heap.size w wr
 bw:b≤wr.heap.size
 beq:b=w.heap.size+1
theorem TI.below {w wr w1:World} {b:Nat} {s1 s2 s3:Value} {l:List UInt8} (h:TI w wr b s1 s2 s3 l) (hb:Below wr.heap.size wr w1):TI w w1 b s1 s2 s3 l:=
 ⟨blk_below h.blk hb,isbu_below h.bu hb,below_step h.bel hb,Nat.le_trans h.bw hb.size,h.beq⟩
theorem TI.line {w wr w1:World} {b:Nat} {s1 s2 s3:Value} {l m:List UInt8} (h:TI w wr b s1 s2 s3 l) (hi:Lib.IsBuilder 90 5 b b (Lib.byteCells l++Lib.byteCells m) w1) (hb:Below b wr w1):TI w w1 b s1 s2 s3 (l++m):=by
 refine ⟨(hb.block _ (by have:=h.beq;omega)).trans h.blk,?_,h.bel.trans (Below.mono hb (by have:=h.beq;omega)),Nat.le_trans h.bw hb.size,h.beq⟩;rw [show Lib.byteCells (l++m)=Lib.byteCells l++Lib.byteCells m from by simp [Lib.byteCells]];exact hi
theorem TI.write {w wr:World} {b g:Nat} {s1 s2 s3:Value} {l:List UInt8} {ws:List ByteArray} (h:TI w wr b s1 s2 s3 l) (hg:wr.heap[g]? =some (.cells (ws.map Value.string).toArray 9 (0,0))) (hws:ws≠ []) (hlen:l.length+(lineL ws).length≤1000000000) (hwl:ws.length≤3):
  Calls Tryd.prog 45 #[.slice (some ⟨g,0,none⟩) ws.length ws.length,.pointer (some ⟨b,0,none⟩)] wr fun e w'=>e= .returned (.tuple #[])∧TI w w' b s1 s2 s3 (l++lineL ws):=by
 refine (line_calls h.bu h.bw (C_strings hg (by omega)) hws (by rw [Lib.byteCells_length];exact hlen) hwl).mono ?_
 rintro e w' ⟨rfl,hi,hb⟩
 exact ⟨rfl,h.line hi hb⟩
theorem flat_take {α:Type} (f:α→List UInt8) (xs:List α) (i:Nat) (h:i<xs.length):(xs.take (i+1)).flatMap f=(xs.take i).flatMap f++f xs[i]:=by
 rw [← List.take_append_getElem h,List.flatMap_append];simp only [List.flatMap_cons,List.flatMap_nil,List.append_nil]
theorem flat_le {α:Type} (f:α→List UInt8) (xs:List α) (i:Nat):((xs.take i).flatMap f).length≤(xs.flatMap f).length:=by
 conv=>rhs;rw [← List.take_append_drop i xs]
 rw [List.flatMap_append,List.length_append];omega
theorem flat_len {α:Type} (f:α→List UInt8) (h: ∀ x,1≤(f x).length): ∀ (xs:List α),xs.length≤(xs.flatMap f).length
 |[]=>by simp
 |x::r=>by have:=flat_len f h r;have:=h x;simp only [List.length_cons,List.flatMap_cons,List.length_append];omega
theorem line_pos (ws:List ByteArray):1≤(lineL ws).length:=by simp [lineL]
set_option maxRecDepth 100000 in
set_option maxHeartbeats 1600000 in
theorem parse_Text.calls (A0_0:Option Addr) (c0_0:Nat) (l0_0:List De6) (A0_1:Option Addr) (c0_1:Nat) (l0_1:List De6) (A0_2:Option Addr) (c0_2:Nat) (l0_2:List Fn6) (r:ByteArray) (w:World) (hr0_0:Kd.C k59 w A0_0 l0_0.length l0_0) (hc0_0:l0_0.length≤c0_0) (hr0_1:Kd.C k59 w A0_1 l0_1.length l0_1) (hc0_1:l0_1.length≤c0_1) (hr0_2:Kd.C k46 w A0_2 l0_2.length l0_2) (hc0_2:l0_2.length≤c0_2) (h:parse_Text.f l0_0 l0_1 l0_2=some r) (hG:GL w):
  Calls Tryd.prog 23 #[.agg #[.slice A0_0 l0_0.length c0_0,.slice A0_1 l0_1.length c0_1,.slice A0_2 l0_2.length c0_2]] w fun e w'=>e= .returned (.string r)∧Below w.heap.size w w':=by
 have hu30:=Tryd.underlying30;have hu59:=Tryd.underlying59;have hu46:=Tryd.underlying46;have hmf: ∀ (fn:Fn) (first cap:Array Value) (w:World),(Instr.makeFunc fn first cap).run Tryd.prog w= .ok (.func fn first cap) w:=fun _ _ _ _=>rfl
 unfold parse_Text.f at h
 split at h
 case isFalse=>cases h
 rename_i hok
 obtain rfl:=Option.some.inj h;simp only [textOk,Bool.and_eq_true,decide_eq_true_eq] at hok;have HOK:=Aside0.mk hok;have HC1:=Aside0.mk hr0_0;have HC2:=Aside0.mk hr0_1;have HC3:=Aside0.mk hr0_2;have HL1:=Aside0.mk hc0_0;have HL2:=Aside0.mk hc0_1;have HL3:=Aside0.mk hc0_2;have HG:=Aside0.mk hG;clear hok hr0_0 hr0_1 hr0_2 hc0_0 hc0_1 hc0_2 hG h;have s1:(w.alloc (.cells #[.slice A0_0 l0_0.length c0_0,.slice A0_1 l0_1.length c0_1,.slice A0_2 l0_2.length c0_2] 30)).heap.size=w.heap.size+1:=by simp only [World.alloc,Array.size_push]
 have HT0:Aside0 (TI w ((w.alloc (.cells #[.slice A0_0 l0_0.length c0_0,.slice A0_1 l0_1.length c0_1,.slice A0_2 l0_2.length c0_2] 30)).alloc (.cells #[.pointer none,.slice none 0 0] 90)) (w.heap.size+1) (.slice A0_0 l0_0.length c0_0) (.slice A0_1 l0_1.length c0_1) (.slice A0_2 l0_2.length c0_2) []):=⟨by
  have hbn:=blk_new (w.alloc (.cells #[.slice A0_0 l0_0.length c0_0,.slice A0_1 l0_1.length c0_1,.slice A0_2 l0_2.length c0_2] 30)) (.cells #[.pointer none,.slice none 0 0] 90);rw [s1] at hbn;refine ⟨blk_alloc (blk_new w _) _,.inl ⟨Nat.le_refl _,_,hbn,⟨rfl,.inl ⟨rfl,rfl⟩⟩,by simp [Value.ownBlock]⟩,below_alloc (below_alloc (Below.refl _ _) _) _,?_,rfl⟩;simp only [World.alloc,Array.size_push];omega⟩
 go_enter Tryd.func23,Tryd.ntmps23
 go_upto_region 3 with fail
 try rw [s1]
 clear s1;generalize (w.alloc (.cells #[.slice A0_0 l0_0.length c0_0,.slice A0_1 l0_1.length c0_1,.slice A0_2 l0_2.length c0_2] 30)).alloc (.cells #[.pointer none,.slice none 0 0] 90)=Y at HT0 ⊢;generalize hb_:w.heap.size+1=b at HT0 ⊢;clear hb_;have k_:=blk_cell HT0.out.blk 0;go_wp2_with fail
 clear k_;go_loopg [15] (l0_0.length+1) (fun q v_ wr=>∃ i:Nat,v_= .int .i64 (i:Int)∧Aside0 (q+i=l0_0.length+1∧i≤l0_0.length)∧Aside0 (TI w wr b (.slice A0_0 l0_0.length c0_0) (.slice A0_1 l0_1.length c0_1) (.slice A0_2 l0_2.length c0_2) ([]++(l0_0.take i).flatMap (declL varT))))
 case atStart=>exact ⟨0,rfl,⟨by omega,by omega⟩,by simpa using HT0⟩
 case round=>
  obtain ⟨i,rfl,HQ,HR⟩:=hrel;by_cases hi:i<l0_0.length
  ·have d1:decide ((i:Int)<(l0_0.length:Int))=true:=decide_eq_true (by omega);have d2:decide (i<l0_0.length)=true:=decide_eq_true hi;obtain ⟨ad,rfl,t0,t1⟩:=at_T59 (Kd.C_below HC1.out HR.out.bel) (i:Int) (by omega) (by omega);rw [Int.toNat_natCast] at t0 t1;have HRD:Aside0 (rd_T59 l0_0 (i:Int)=l0_0[i]):=⟨by unfold rd_T59;rw [Int.toNat_natCast,List.getD_eq_getElem?_getD,List.getElem?_eq_getElem hi,Option.getD_some]⟩;generalize rd_T59 l0_0 (i:Int)=x at t0 t1 HRD;have HI:=Aside0.mk hi;replace hi:=eq_true hi;go_upto_region 6 with fail
   have HZ:=Aside0.mk (HR.out.below (below_alloc (Below.refl _ _) (.cells #[.string x.f0,.int .i64 x.f1] 59)));have z0:=blk_cell (blk_new wr (.cells #[.string x.f0,.int .i64 x.f1] 59)) 0;generalize wr.heap.size=sz at z0 ⊢;generalize wr.alloc (.cells #[.string x.f0,.int .i64 x.f1] 59)=Z at HZ z0 ⊢;clear t0 t1;have HV:=Aside0.mk (HZ.out.below (below_alloc (Below.refl _ _) (.cells #[.string varT,.string x.f0] 9)));have HN:=Aside0.mk (blk_new Z (.cells #[.string varT,.string x.f0] 9));go_wp2_with fail
   have hlen:([]++(l0_0.take i).flatMap (declL varT)).length+(lineL [varT,x.f0]).length≤1000000000:=by
    have h1:=HOK.out.1;have h2:=flat_take (declL varT) l0_0 i HI.out;have h3:=flat_le (declL varT) l0_0 (i+1);rw [h2,← HRD.out,List.length_append] at h3;have h4:(declL varT x).length=(lineL [varT,x.f0]).length:=rfl;simp only [textL,List.length_append,List.length_nil] at h1 ⊢;omega
   refine (TI.write (ws:=[varT,x.f0]) HV.out HN.out (by simp) hlen (by simp)).mono ?_
   rintro E w4 ⟨rfl,h4⟩
   have H4:=Aside0.mk h4;clear h4 hlen;have bi:(i:Int)<1000000000:=by
    have h1:=HOK.out.1;have h2:=flat_len (declL varT) (fun x=>line_pos _) l0_0;have h3:=HI.out;simp only [textL,List.length_append] at h1;omega
   go_wp2_with fail
   go_roundg (gk - 1)
   case rel=>
    refine ⟨i+1,by go_num,⟨by have:=HQ.out;have:=HI.out;omega,by have:=HI.out;omega⟩,⟨?_⟩⟩;have h5:=H4.out;rw [List.append_assoc] at h5;have h6:=flat_take (declL varT) l0_0 i HI.out;rw [← HRD.out] at h6;rw [h6];exact h5
   case measure=>have:=HQ.out;have:=HI.out;omega
  ·have d1:decide ((i:Int)<(l0_0.length:Int))=false:=decide_eq_false (by omega);have d2:decide (i<l0_0.length)=false:=decide_eq_false hi;obtain rfl:i=l0_0.length:=by have:=HQ.out;omega
   have HT1:=Aside0.mk HR.out;rw [List.take_length] at HT1;clear hi;go_upto_region 8 with fail
   generalize wr=Y1 at *;have k_:=blk_cell HT1.out.blk 1;go_wp2_with fail
   clear k_;go_loopg [28] (l0_1.length+1) (fun q v_ wr=>∃ i:Nat,v_= .int .i64 (i:Int)∧Aside0 (q+i=l0_1.length+1∧i≤l0_1.length)∧Aside0 (TI w wr b (.slice A0_0 l0_0.length c0_0) (.slice A0_1 l0_1.length c0_1) (.slice A0_2 l0_2.length c0_2) (([]++l0_0.flatMap (declL varT))++(l0_1.take i).flatMap (declL lockT))))
   case atStart=>exact ⟨0,rfl,⟨by omega,by omega⟩,by simpa using HT1⟩
   case round=>
    obtain ⟨i,rfl,HQ,HR⟩:=hrel;by_cases hi:i<l0_1.length
    ·have d1:decide ((i:Int)<(l0_1.length:Int))=true:=decide_eq_true (by omega);have d2:decide (i<l0_1.length)=true:=decide_eq_true hi;obtain ⟨ad,rfl,t0,t1⟩:=at_T59 (Kd.C_below HC2.out HR.out.bel) (i:Int) (by omega) (by omega);rw [Int.toNat_natCast] at t0 t1;have HRD:Aside0 (rd_T59 l0_1 (i:Int)=l0_1[i]):=⟨by unfold rd_T59;rw [Int.toNat_natCast,List.getD_eq_getElem?_getD,List.getElem?_eq_getElem hi,Option.getD_some]⟩;generalize rd_T59 l0_1 (i:Int)=x at t0 t1 HRD;have HI:=Aside0.mk hi;replace hi:=eq_true hi;go_upto_region 11 with fail
     have HZ:=Aside0.mk (HR.out.below (below_alloc (Below.refl _ _) (.cells #[.string x.f0,.int .i64 x.f1] 59)));have z0:=blk_cell (blk_new wr (.cells #[.string x.f0,.int .i64 x.f1] 59)) 0;generalize wr.heap.size=sz at z0 ⊢;generalize wr.alloc (.cells #[.string x.f0,.int .i64 x.f1] 59)=Z at HZ z0 ⊢;clear t0 t1;have HV:=Aside0.mk (HZ.out.below (below_alloc (Below.refl _ _) (.cells #[.string lockT,.string x.f0] 9)));have HN:=Aside0.mk (blk_new Z (.cells #[.string lockT,.string x.f0] 9));go_wp2_with fail
     have hlen:(([]++l0_0.flatMap (declL varT))++(l0_1.take i).flatMap (declL lockT)).length+(lineL [lockT,x.f0]).length≤1000000000:=by
      have h1:=HOK.out.1;have h2:=flat_take (declL lockT) l0_1 i HI.out;have h3:=flat_le (declL lockT) l0_1 (i+1);rw [h2,← HRD.out,List.length_append] at h3;have h4:(declL lockT x).length=(lineL [lockT,x.f0]).length:=rfl;simp only [textL,List.length_append,List.length_nil] at h1 ⊢;omega
     refine (TI.write (ws:=[lockT,x.f0]) HV.out HN.out (by simp) hlen (by simp)).mono ?_
     rintro E w4 ⟨rfl,h4⟩
     have H4:=Aside0.mk h4;clear h4 hlen;have bi:(i:Int)<1000000000:=by
      have h1:=HOK.out.1;have h2:=flat_len (declL lockT) (fun x=>line_pos _) l0_1;have h3:=HI.out;simp only [textL,List.length_append] at h1;omega
     go_wp2_with fail
     go_roundg (gk - 1)
     case rel=>
      refine ⟨i+1,by go_num,⟨by have:=HQ.out;have:=HI.out;omega,by have:=HI.out;omega⟩,⟨?_⟩⟩;have h5:=H4.out;rw [List.append_assoc] at h5;have h6:=flat_take (declL lockT) l0_1 i HI.out;rw [← HRD.out] at h6;rw [h6];exact h5
     case measure=>have:=HQ.out;have:=HI.out;omega
    ·have d1:decide ((i:Int)<(l0_1.length:Int))=false:=decide_eq_false (by omega);have d2:decide (i<l0_1.length)=false:=decide_eq_false hi;obtain rfl:i=l0_1.length:=by have:=HQ.out;omega
     have HT2:=Aside0.mk HR.out;rw [List.take_length] at HT2;clear hi;go_upto_region 13 with fail
     generalize wr=Y2 at *;have k_:=blk_cell HT2.out.blk 2;go_wp2_with fail
     clear k_;go_loopg [41] (l0_2.length+1) (fun q v_ wr=>∃ i:Nat,v_= .int .i64 (i:Int)∧Aside0 (q+i=l0_2.length+1∧i≤l0_2.length)∧Aside0 (TI w wr b (.slice A0_0 l0_0.length c0_0) (.slice A0_1 l0_1.length c0_1) (.slice A0_2 l0_2.length c0_2) (([]++l0_0.flatMap (declL varT)++l0_1.flatMap (declL lockT))++(l0_2.take i).flatMap funcL)))
     case atStart=>exact ⟨0,rfl,⟨by omega,by omega⟩,by simpa using HT2⟩
     case round=>
      obtain ⟨i,rfl,HQ,HR⟩:=hrel;by_cases hi:i<l0_2.length
      ·have d1:decide ((i:Int)<(l0_2.length:Int))=true:=decide_eq_true (by omega);have d2:decide (i<l0_2.length)=true:=decide_eq_true hi;obtain ⟨ad,A5,c5,rfl,t0,t1,t2,l5,C5⟩:=at_T46 (Kd.C_below HC3.out HR.out.bel) (i:Int) (by omega) (by omega);rw [Int.toNat_natCast] at t0 t1 t2;have HRD:Aside0 (rd_T46 l0_2 (i:Int)=l0_2[i]):=⟨by unfold rd_T46;rw [Int.toNat_natCast,List.getD_eq_getElem?_getD,List.getElem?_eq_getElem hi,Option.getD_some]⟩;have hkx:lsK (l0_2[i]).f2=true∧(lsW (l0_2[i]).f2).length≤1000000:=by
        have h1:=List.all_eq_true.mp HOK.out.2 _ (List.getElem_mem hi);simpa using h1
       rw [← HRD.out] at hkx;generalize rd_T46 l0_2 (i:Int)=x at t0 t1 t2 l5 C5 HRD hkx;have HI:=Aside0.mk hi;have hlen:(([]++l0_0.flatMap (declL varT)++l0_1.flatMap (declL lockT))++(l0_2.take i).flatMap funcL).length+(lineL [funcT,x.f0,⟨(bodyL x.f2).toArray⟩]).length≤1000000000:=by
        have h1:=HOK.out.1;have h2:=flat_take funcL l0_2 i HI.out;have h3:=flat_le funcL l0_2 (i+1);rw [h2,← HRD.out,List.length_append] at h3;have h4:(funcL x).length=(lineL [funcT,x.f0,⟨(bodyL x.f2).toArray⟩]).length:=rfl;simp only [textL,List.length_append,List.length_nil] at h1 ⊢;omega
       obtain ⟨kb,hkb⟩:=body_ev x.f0 x.f1 x.f2 hkx.1 hkx.2 (by
        have h1:(lineL [funcT,x.f0,⟨(bodyL x.f2).toArray⟩]).length=(Lib.join ([funcT,x.f0,⟨(bodyL x.f2).toArray⟩].map (·.data.toList)) [32]).length+1:=by simp [lineL]
        have h2:(bodyL x.f2).length≤(Lib.join ([funcT,x.f0,⟨(bodyL x.f2).toArray⟩].map (·.data.toList)) [32]).length:=by
         simp [Lib.join]
         omega
        omega)
       have HBO:=Aside0.mk hkb;have HC5:=Aside0.mk C5;have HL5:=Aside0.mk l5;replace hi:=eq_true hi;clear hkx hkb C5 l5;go_upto_region 16 with fail
       have HZ:=Aside0.mk (HR.out.below (below_alloc (Below.refl _ _) (.cells #[.string x.f0,.int .i64 x.f1,.slice A5 x.f2.length c5] 46)));have HGZ:=Aside0.mk (HG.out.of_below HZ.out.bel);have HC5:=Aside0.mk (Kd.C_below HC5.out (below_alloc (Below.refl _ _) (.cells #[.string x.f0,.int .i64 x.f1,.slice A5 x.f2.length c5] 46)));have f0:=blk_cell (blk_new wr (.cells #[.string x.f0,.int .i64 x.f1,.slice A5 x.f2.length c5] 46)) 0;have f1:=blk_cell (blk_new wr (.cells #[.string x.f0,.int .i64 x.f1,.slice A5 x.f2.length c5] 46)) 1;have f2:=blk_cell (blk_new wr (.cells #[.string x.f0,.int .i64 x.f1,.slice A5 x.f2.length c5] 46)) 2;generalize wr.heap.size=sz at f0 f1 f2 ⊢;generalize wr.alloc (.cells #[.string x.f0,.int .i64 x.f1,.slice A5 x.f2.length c5] 46)=Z at HZ HGZ HC5 f0 f1 f2 ⊢;clear t0 t1 t2
       -- REGION 16 (gen_text16.py)
       refine start_ (n:=7) (S:=fun w'=>w'.cell? ⟨sz,0,none⟩=some (.string x.f0)∧w'.cell? ⟨sz,1,none⟩=some (.int .i64 x.f1)∧w'.cell? ⟨sz,2,none⟩=some (.slice A5 x.f2.length c5)) (ds:=[6]) #[false,false,false,false,false,false,false] (by kernel_rfl) rfl rfl ⟨f0,f1,f2⟩ (fun hHeld=>?_);refine pure_ (i:=0) (N:=some 45) (v:=?_) (a':=?_) #[true,false,false,false,false,false,false] rfl rfl (by kernel_rfl) (fun _ _ _ h=>h) (Or.inl ⟨by rfl,?_⟩) ?_ ?_
       rotate_left;·intro w';go_simp;with_reducible rfl
       rotate_left;·simp only [Act.put,q1_,q2_,q3_,i64_w,i32_w];rfl
       refine pure_ (i:=1) (N:=some 46) (v:=?_) (a':=?_) #[true,true,false,false,false,false,false] rfl rfl (by kernel_rfl) (fun _ _ _ h=>h) (Or.inl ⟨by rfl,?_⟩) ?_ ?_
       rotate_left;·intro w';go_simp;with_reducible rfl
       rotate_left;·simp only [Act.put,q1_,q2_,q3_,i64_w,i32_w];rfl
       refine take_ (i:=2) (N:=some 47) (v:=?_) (a':=?_) #[true,true,true,false,false,false,false] rfl rfl (by kernel_rfl) (fun _ _ _ h=>h) (Or.inl ⟨by rfl,?_⟩) hHeld ?_ ?_
       rotate_left
       ·rintro w' ⟨s0,s1,s2⟩
        go_simp;with_reducible rfl
       rotate_left;·simp only [Act.put,q1_,q2_,q3_,i64_w,i32_w];rfl
       refine take_ (i:=3) (N:=some 48) (v:=?_) (a':=?_) #[true,true,true,true,false,false,false] rfl rfl (by kernel_rfl) (fun _ _ _ h=>h) (Or.inl ⟨by rfl,?_⟩) hHeld ?_ ?_
       rotate_left
       ·rintro w' ⟨s0,s1,s2⟩
        go_simp;with_reducible rfl
       rotate_left;·simp only [Act.put,q1_,q2_,q3_,i64_w,i32_w];rfl
       refine one_ (i:=4) (N:=some 49) #[true,true,true,true,true,false,false] rfl rfl (by kernel_rfl) (by decide) (fun K hK=>?_);refine goes_ Tryd.func24 (by kernel_rfl) rfl #[.agg #[.string x.f0,.int .i64 x.f1,.slice A5 x.f2.length c5]] (by rfl) rfl rfl (by simp only [List.map_toArray,List.map_cons,List.map_nil];rfl) ?_
       with_reducible refine (parse_Body.calls kb x.f0 x.f1 A5 c5 x.f2 ⟨(bodyL x.f2).toArray⟩ _ (Kd.C_below HC5.out (below_drew1 (Below.refl Z.heap.size Z))) HL5.out HBO.out (HGZ.out.of_below (below_drew1 (Below.refl Z.heap.size Z)))).mono ?_
       rintro E w6 ⟨rfl,hb_⟩
       refine ⟨_,rfl,?_⟩;have HB6:=Aside0.mk (below_step (below_drew1 (Below.refl Z.heap.size Z)) hb_);clear hb_;refine hK.out _ _ ⟨(HB6.out.cell (World.block_lt_of_cell? Z _ f0)).trans f0,(HB6.out.cell (World.block_lt_of_cell? Z _ f1)).trans f1,(HB6.out.cell (World.block_lt_of_cell? Z _ f2)).trans f2⟩ (fun hHeld=>?_);clear hK K;refine norm_ (a':=?_) ?_ ?_
       rotate_left
       ·show Act.put _ (some 49) _=_
        simp only [Act.put,q1_,q2_,q3_,i64_w,i32_w];rfl
       refine one_ (i:=5) (N:=some 50) #[true,true,true,true,true,true,false] rfl rfl (by kernel_rfl) (by decide) (fun K hK=>?_);refine value_ (w1:=?_) (v:=?_) (by rfl) rfl ?_ ?_
       rotate_left 2
       ·go_simp;constructor
        ·rfl
        ·rfl
       refine hK.out _ _ ⟨((below_alloc HB6.out _).cell (World.block_lt_of_cell? Z _ f0)).trans f0,((below_alloc HB6.out _).cell (World.block_lt_of_cell? Z _ f1)).trans f1,((below_alloc HB6.out _).cell (World.block_lt_of_cell? Z _ f2)).trans f2⟩ (fun hHeld=>?_);clear hK K;refine norm_ (a':=?_) ?_ ?_
       rotate_left
       ·show Act.put _ (some 50) _=_
        simp only [Act.put,q1_,q2_,q3_,i64_w,i32_w];rfl
       refine last_ (i:=6) (N:=some 51) #[true,true,true,true,true,true,true] rfl rfl (by kernel_rfl) (by decide) (fun K hK=>?_);refine goesC_ Tryd.func45 (by kernel_rfl) rfl #[.slice (some ⟨w6.heap.size,0,none⟩) 3 3] #[.slice (some ⟨w6.heap.size,0,none⟩) 3 3,.pointer (some ⟨b,0,none⟩)] (by rfl) rfl rfl (by rfl) (by simp only [List.map_toArray,List.map_cons,List.map_nil];rfl) (by rfl) ?_
       have HW7:=Aside0.mk ((HZ.out.below HB6.out).below (below_alloc (Below.refl _ _) (.cells #[.string funcT,.string x.f0,.string ⟨(bodyL x.f2).toArray⟩] 9)));refine (TI.write (ws:=[funcT,x.f0,⟨(bodyL x.f2).toArray⟩]) HW7.out (blk_new w6 _) (by simp) hlen (by simp)).mono ?_
       rintro E w8 ⟨rfl,h4⟩
       refine ⟨_,rfl,?_⟩;have H4:=Aside0.mk h4;clear h4;refine hK.out _ _ ?_
       clear hK K;refine norm_ (a':=?_) ?_ ?_
       rotate_left
       ·show Act.put _ (some 51) _=_
        simp only [Act.put,q1_,q2_,q3_,i64_w,i32_w];rfl
       refine done_ (by kernel_rfl) ?_
       -- END REGION
       clear hHeld f0 f1 f2;have bi:(i:Int)<1000000000:=by
        have h1:=HOK.out.1;have h2:=flat_len funcL (fun x=>line_pos _) l0_2;have h3:=HI.out;simp only [textL,List.length_append] at h1;omega
       go_wp2
       go_roundg (gk - 1)
       case rel=>
        refine ⟨i+1,by go_num,⟨by have:=HQ.out;have:=HI.out;omega,by have:=HI.out;omega⟩,⟨?_⟩⟩;have h5:=H4.out;rw [List.append_assoc] at h5;have h6:=flat_take funcL l0_2 i HI.out;rw [← HRD.out] at h6;rw [h6];exact h5
       case measure=>have:=HQ.out;have:=HI.out;omega
      ·have d1:decide ((i:Int)<(l0_2.length:Int))=false:=decide_eq_false (by omega);have d2:decide (i<l0_2.length)=false:=decide_eq_false hi;obtain rfl:i=l0_2.length:=by have:=HQ.out;omega
       have HT3:=Aside0.mk HR.out;rw [List.take_length] at HT3;clear hi;go_wp2_with fail
       refine (Tryd.Builder_String_any b b _ _ HT3.out.bu HT3.out.bw).mono ?_
       rintro E w9 ⟨rfl,hb9⟩
       have HB9:=Aside0.mk (HT3.out.bel.trans (Below.mono hb9 (by have:=HT3.out.beq;omega)));clear hb9;go_wp2_with fail
       go_ret
       refine ⟨?_,HB9.out⟩;simp only [textL,List.nil_append,List.append_assoc];rfl
end Go.Proofs.YtkmafndljelopaaDoor.Q
