/- Par4: put together by wip/merge.py. -/
import Derived.Test.YtkmafndljelopaaDoorJQ10
import Derived.Test.YtkmafndljelopaaDoorJPar3
import Derived.Test.YtkmafndljelopaaDoorJEv
import Derived.Test.YtkmafndljelopaaDoorJShelf2
import Derived.Lib.Strings
import Derived.Lib.Walk
import Derived.Lib.Builder
import Derived.Lib.AppendStr
import Derived.Lib.UnsafeStr
import Derived.WalkKit
import Derived.Laws.Externs
namespace Go.Proofs.YtkmafndljelopaaDoor.Q
open Go.RowKit Go.Proofs.YtkmafndljelopaaDoorW.PrintWords Go.Proofs.YtkmafndljelopaaDoorW.PrintLast Go.Proofs.YtkmafndljelopaaDoorW.PrintMore Go.Proofs.YtkmafndljelopaaDoor.Lx
set_option linter.unusedVariables false
set_option linter.unusedSimpArgs false
def openB:ByteArray:=⟨#[123]⟩
def closeB:ByteArray:=⟨#[125]⟩
mutual
/-- a statement's words -/
def stW:St6→List ByteArray
 |⟨k,_,nm,A,B⟩=>verbC k::(if k=8 then openB::(lsW A++ [closeB]) else if k=7 then (openB::(lsW A++ [closeB]))++(if B.isEmpty then [] else elseT::openB::(lsW B++ [closeB])) else [nm])
def lsW:List St6→List ByteArray
 |[]=>[]
 |s::r=>stW s++lsW r
end
def blW (l:List St6):List ByteArray:=openB::(lsW l++ [closeB])
mutual
/-- its kinds are those of statements -/
def stK:St6→Bool
 |⟨k,_,_,A,B⟩=>decide (1≤k) && (decide (k≤8) && (lsK A && lsK B))
def lsK:List St6→Bool
 |[]=>true
 |s::r=>stK s && lsK r
end
theorem uH (s:St6):stW s=verbC s.f0::(if s.f0=8 then blW s.f3 else if s.f0=7 then blW s.f3++(if s.f4.isEmpty then [] else elseT::blW s.f4) else [s.f2]):=by
 cases s;simp only [stW,blW]
theorem aw6 (s:St6):stK s=(decide (1≤s.f0) && (decide (s.f0≤8) && (lsK s.f3 && lsK s.f4))):=by
 cases s;simp only [stK]
theorem arW (a b:List St6):lsW (a++b)=lsW a++lsW b:=by
 induction a with
 |nil=>simp [lsW]
 |cons s r ih=>simp only [List.cons_append,lsW,ih,List.append_assoc]
theorem aoA {l:List St6} (h:lsK l=true): ∀ s∈l,stK s=true:=by
 induction l with
 |nil=>simp
 |cons s r ih=>
  simp only [lsK,Bool.and_eq_true] at h;intro x hx;rcases List.mem_cons.1 hx with rfl|hx
  ·exact h.1
  ·exact ih h.2 x hx
theorem af6 (s:St6):1≤(stW s).length:=by rw [uH];simp
theorem XI (l:List St6) (i:Nat) (h:i<l.length):lsW (l.drop i)=stW l[i]++lsW (l.drop (i+1)):=by
 rw [List.drop_eq_getElem_cons h,lsW]
theorem FU (l:List St6):l.length≤(lsW l).length:=by
 induction l with
 |nil=>simp
 |cons s r ih=>have:=af6 s;simp only [lsW,List.length_append,List.length_cons];omega
theorem adM (l:List St6) (i:Nat) (h:i<l.length):aE l (i:Int)=l[i]:=by
 unfold aE
 rw [Int.toNat_natCast,List.getD_eq_getElem?_getD,List.getElem?_eq_getElem h,Option.getD_some]
theorem KG (l:List St6) (hk:lsK l=true) (hb:(lsW l).length+2≤8796093022208):EvS (fun k=>dF.f k l) (blW l):=by
 have hll:=FU l;have H: ∀ (d i:Nat) (acc:List ByteArray),l.length - i=d→i≤l.length→acc.length+(lsW (l.drop i)).length+1≤8796093022208→EvS (fun k=>dF.l0 k acc l (l.length:Int) (i:Int)) (acc++lsW (l.drop i)++ [closeB]):=by
  intro d;induction d with
  |zero=>
   intro i acc hd hi ha;obtain rfl:i=l.length:=by omega
   rw [List.drop_length] at ha ⊢;refine EvS.succ ?_
   simp only [dF.l0];refine EvS.if_neg (by omega) (EvS.if_pos (by simp only [lsW,List.length_nil] at ha;omega) ?_);simp only [lsW,List.append_nil];exact .some_ _
  |succ d ih=>
   intro i acc hd hi ha;have hlt:i<l.length:=by omega
   have hw:wrap64 ((i:Int)+1)=((i+1:Nat):Int):=by rw [w64 (by omega)];omega
   have hmem:l[i]∈l:=List.getElem_mem hlt;have hsk:=aoA hk _ hmem;rw [aw6] at hsk;simp only [Bool.and_eq_true,decide_eq_true_eq] at hsk;obtain ⟨mT,jQ,uP,mX⟩:=hsk;have lC:SizeOf.sizeOf l[i].f3<SizeOf.sizeOf l:=by
    have h1:=List.sizeOf_lt_of_mem hmem;have h2:SizeOf.sizeOf l[i].f3<SizeOf.sizeOf l[i]:=by cases l[i];simp;omega
    omega
   have ajI:SizeOf.sizeOf l[i].f4<SizeOf.sizeOf l:=by
    have h1:=List.sizeOf_lt_of_mem hmem;have h2:SizeOf.sizeOf l[i].f4<SizeOf.sizeOf l[i]:=by cases l[i];simp;omega
    omega
   rw [XI l i hlt] at ha ⊢;have hse:=uH l[i];refine EvS.succ ?_
   simp only [dF.l0];refine EvS.if_pos (by omega) (EvS.if_pos (by omega) (EvS.if_pos (by omega) ?_));rw [adM l i hlt,hw];refine EvS.bind1 (a:=verbC l[i].f0) (by unfold xO.f;rw [if_pos ⟨mT,jQ⟩]) ?_
   simp only [List.length_append] at ha;have h1:=af6 l[i];refine EvS.if_pos (by omega) ?_
   simp only [Option.bind_some];have next: ∀ (acc':List ByteArray),acc'=acc++stW l[i]→EvS (fun k=>dF.l0 k acc' l (l.length:Int) ((i+1:Nat):Int)) (acc++(stW l[i]++lsW (l.drop (i+1)))++ [closeB]):=by
    rintro _ rfl
    have:=ih (i+1) (acc++stW l[i]) (by omega) (by omega) (by simp only [List.length_append];omega);rwa [← List.append_assoc]
   by_cases h8:l[i].f0=8
   ·have abO:stW l[i]=verbC l[i].f0::blW l[i].f3:=by rw [hse,if_pos h8]
    have aMF:(stW l[i]).length=1+((lsW l[i].f3).length+2):=by rw [abO];simp [blW];omega
    refine EvS.if_pos h8 (EvS.bind (KG _ uP (by omega)) (EvS.if_pos (by simp [blW];omega) ?_));exact next _ (by rw [abO];simp)
   ·by_cases h7:l[i].f0=7
    ·refine EvS.if_neg h8 (EvS.if_pos h7 ?_);by_cases he:l[i].f4= []
     ·have I2:stW l[i]=verbC l[i].f0::blW l[i].f3:=by rw [hse,if_neg h8,if_pos h7,he];simp
      have auB:(stW l[i]).length=1+((lsW l[i].f3).length+2):=by rw [I2];simp [blW];omega
      refine EvS.bind (KG _ uP (by omega)) (EvS.if_pos (by simp [blW];omega) ?_);try simp only [Option.bind_some]
      refine EvS.if_neg (by rw [he];simp) ?_
      exact next _ (by rw [I2];simp)
     ·have hne:l[i].f4.isEmpty=false:=by cases h:l[i].f4<;>simp_all
      have I2:stW l[i]=verbC l[i].f0::(blW l[i].f3++(elseT::blW l[i].f4)):=by rw [hse,if_neg h8,if_pos h7,hne];simp
      have auB:(stW l[i]).length=1+((lsW l[i].f3).length+2)+(1+((lsW l[i].f4).length+2)):=by rw [I2];simp [blW];omega
      refine EvS.bind (KG _ uP (by omega)) (EvS.if_pos (by simp [blW];omega) ?_);try simp only [Option.bind_some]
      refine EvS.if_pos (by have:0<l[i].f4.length:=List.length_pos_iff.2 he;omega) (EvS.if_pos (by simp [blW];omega) ?_);refine EvS.bind (KG _ mX (by omega)) (EvS.if_pos (by simp [blW];omega) ?_);exact next _ (by rw [I2];simp [elseT])
    ·have ajJ:stW l[i]=verbC l[i].f0:: [l[i].f2]:=by rw [hse,if_neg h8,if_neg h7]
     have aJD:(stW l[i]).length=2:=by rw [ajJ];simp
     refine EvS.if_neg h8 (EvS.if_neg h7 (EvS.if_pos (by simp;omega) ?_));exact next _ (by rw [ajJ];simp)
 refine EvS.succ ?_
 simp only [dF.f];have:=H l.length 0 [openB] (by omega) (by omega) (by simp only [List.drop_zero,List.length_cons,List.length_nil];omega);rw [List.drop_zero] at this;exact this
termination_by SizeOf.sizeOf l
theorem aaS:(Tryd.prog.info? 90).map (·.size)=some 2:=by kernel_rfl
theorem am3:liesAt Tryd.prog Tryd.prog.depth 90 (2 / Tryd.prog.cellsOf 90) 0 90 1=true:=by kernel_rfl
set_option maxHeartbeats 1000000 in
set_option maxRecDepth 100000 in
theorem ap8 (b:Nat) (w:World) (h0:w.cell? ⟨b,0,none⟩=some (.pointer (some ⟨b,0,none⟩))):
  Calls Tryd.prog 75 #[.pointer (some ⟨b,0,none⟩)] w fun e w'=>e= .returned (.tuple #[])∧w=w':=by
 obtain ⟨j,hj,_⟩:=Option.map_eq_some_iff.1 aaS;go_enter Tryd.func75,Tryd.ntmps75
 go_wp2
 rw [Lib.run_neq_ptr_same w _ Tryd.underlying88 hj];go_wp2
 go_end0
 exact ⟨rfl,rfl⟩
set_option maxHeartbeats 1000000 in
set_option maxRecDepth 100000 in
theorem amN (b:Nat) (w:World) (h0:w.cell? ⟨b,0,none⟩=some (.pointer none)) (hsh:w.shape? b=some (90,2)) (hfz:w.frozen? ⟨b,0,none⟩=false):
  Calls Tryd.prog 75 #[.pointer (some ⟨b,0,none⟩)] w fun e w'=>e= .returned (.tuple #[])∧w.setCell ⟨b,0,none⟩ (.pointer (some ⟨b,0,none⟩))=w':=by
 obtain ⟨j,hj,hjs⟩:=Option.map_eq_some_iff.1 aaS;go_enter Tryd.func75,Tryd.ntmps75
 go_wp2
 rw [Lib.run_to_unsafe w ⟨b,0,none⟩ Tryd.underlying88 Tryd.underlying121 hj (by rw [hjs];decide) hsh (Nat.zero_lt_succ 1)];simp only [Result.andThen];rw [Oper.upon_value];go_wp2
 rw [run_callFunc_extern Tryd.func86 (by kernel_rfl) (by kernel_rfl) (by kernel_rfl) (e:=Extern.AbiNoEscape.same) (by kernel_rfl)];rw [Lib.run_noEscape];simp only [Result.andThen];rw [Oper.upon_value];go_wp2
 rw [Lib.run_from_unsafe w ⟨b,0,none⟩ Tryd.underlying121 Tryd.underlying88 hj hsh am3];simp only [Result.andThen];rw [Oper.upon_value];go_wp2
 go_end0
 exact ⟨rfl,rfl⟩
theorem ayC (B b:Nat) (bs:List Value) (w:World) (h:Lib.IsBuilder 90 5 B b bs w):
  Calls Tryd.prog 75 #[.pointer (some ⟨b,0,none⟩)] w fun e w'=>e= .returned (.tuple #[])∧(Lib.BuilderAt 90 5 B b (.pointer (some ⟨b,0,none⟩)) bs w'∧Below B w w'):=by
 rcases h with h|h
 ·refine (amN b w h.cell0 h.shape h.frozen0).mono ?_
  rintro e w' ⟨rfl,rfl⟩
  exact ⟨rfl,h.used _,(Below.refl B w).setCell (p:=⟨b,0,none⟩) h.1 _⟩
 ·refine (ap8 b w h.cell0).mono ?_
  rintro e w' ⟨rfl,rfl⟩
  exact ⟨rfl,h,Below.refl B _⟩
set_option maxHeartbeats 2000000 in
set_option maxRecDepth 100000 in
theorem avT (B b:Nat) (bs:List Value) (s:ByteArray) (w:World) (h:Lib.IsBuilder 90 5 B b bs w) (hlen:bs.length+s.size≤140737488355328) (hBw:B≤w.heap.size):
  Calls Tryd.prog 46 #[.pointer (some ⟨b,0,none⟩),.string s] w fun e w'=>e= .returned (.tuple #[.int .i64 s.size,.nilIface])∧(Lib.BuilderAt 90 5 B b (.pointer (some ⟨b,0,none⟩)) (bs++Lib.strCells s) w'∧Below B w w'):=by
 obtain ⟨i0,hi,hzz⟩:=Option.map_eq_some_iff.1 (show (Tryd.prog.info? 5).map (fun i=>(i.zero,i.size,i.bytes))=some (some (.int .u8 0),1,1) by kernel_rfl);simp only [Prod.mk.injEq] at hzz;obtain ⟨wE,j7,iT⟩:=hzz;go_enter Tryd.func46,Tryd.ntmps46
 go_wp2_with fail
 refine (ayC B b bs _ h).mono ?_
 rintro e w1 ⟨rfl,h1,fM⟩
 obtain ⟨hB,v,hbk,hown,hne⟩:=h1;have c0:w1.cell? ⟨b,0,none⟩=some (.pointer (some ⟨b,0,none⟩)):=by rw [Lib.cell_of_heap hbk];rfl
 have c1:w1.cell? ⟨b,1,none⟩=some v:=by rw [Lib.cell_of_heap hbk];rfl
 go_wp2_with (at_builtin;refine Lib.wpList_append_own_string _ rfl _ _ 32 9 rfl B 5 i0 Tryd.underlying32 Tryd.underlying9 hi wE j7 iT _ _ _ rfl hown s rfl ?c3 ?c4 ?c5 ?_)
 case c3=>unfold maxLen;omega
 case c4=>omega
 case c5=>have:=fM.size;omega
 intro v' w2 hown' hgrow _;have hlt:b<w1.heap.size:=by
  rcases Nat.lt_or_ge b w1.heap.size with h'|h'
  ·exact h'
  ·simp [Array.getElem?_eq_none h'] at hbk
 have bR:w2.heap[b]? =some (.cells #[.pointer (some ⟨b,0,none⟩),v] 90 (0,0)):=by
  rw [hgrow.block b hlt (fun e=>hne e.symm)];exact hbk
 have d0:w2.cell? ⟨b,0,none⟩=some (.pointer (some ⟨b,0,none⟩)):=by rw [Lib.cell_of_heap bR];rfl
 have d1:w2.cell? ⟨b,1,none⟩=some v:=by rw [Lib.cell_of_heap bR];rfl
 have f1:w2.frozen? ⟨b,1,none⟩=false:=Lib.frozen_of_heap bR 1;obtain ⟨ao,n',cap,rfl⟩: ∃ ao n' cap,v'= .slice ao n' cap:=by
  rcases hown'.2 with ⟨hv,_⟩|⟨g,cap,cur,hv,_⟩
  ·exact ⟨_,_,_,hv⟩
  ·exact ⟨_,_,_,hv⟩
 go_wp2
 go_ret2
 refine ⟨rfl,?_,?_⟩;·exact Lib.BuilderAt.put (T:=90) (e:=5) hB bR (bs':=bs++Lib.strCells s) (by simpa [Lib.strCells_length] using hown') (by decide)
 ·exact (fM.grown hgrow (by have:=fM.size;omega) (fun k hk=>(hown.lt k hk).1)).setCell (p:=⟨b,1,none⟩) hB _
theorem adT {T e:TypeId} {B b:Nat} {p:Value} {bs:List Value} {w w':World} (h:Lib.BuilderAt T e B b p bs w) (hb:Below w.heap.size w w'):Lib.BuilderAt T e B b p bs w':=by
 obtain ⟨hB,v,hbk,hown,hne⟩:=h;refine ⟨hB,v,dB hbk hb,hown.kept (row:=none) ⟨hb.os,hb.tape,hb.output,hb.size,fun k hk _=>hb.block k hk⟩ ?_,hne⟩;cases hv:v.ownBlock with
 |none=>exact .inl rfl
 |some k=>exact .inr (by simp)
theorem agO {T e:TypeId} {B b:Nat} {bs:List Value} {w w':World} (h:Lib.IsBuilder T e B b bs w) (hb:Below w.heap.size w w'):Lib.IsBuilder T e B b bs w':=
 h.elim (fun h=>.inl (adT h hb)) (fun h=>.inr (adT h hb))
def lineL (ws:List ByteArray):List UInt8:=Lib.join (ws.map (·.data.toList)) [32]++ [10]
set_option maxRecDepth 20000 in
set_option maxHeartbeats 800000 in
theorem av2 {B b g:Nat} {bs:List Value} {ws:List ByteArray} {w:World} (h:Lib.IsBuilder 90 5 B b bs w) (hBw:B≤w.heap.size) (hC:Kd.C Kd.string w (some ⟨g,0,none⟩) ws.length ws) (hws:ws≠ []) (hlen:bs.length+(lineL ws).length≤1000000000) (hwl:ws.length≤3):
  Calls Tryd.prog 45 #[.slice (some ⟨g,0,none⟩) ws.length ws.length,.pointer (some ⟨b,0,none⟩)] w fun e w'=>e= .returned (.tuple #[])∧Lib.IsBuilder 90 5 B b (bs++Lib.byteCells (lineL ws)) w'∧Below B w w':=by
 have HJ:aC (strings_Join.f ws ⟨#[32]⟩=some ⟨(Lib.join (ws.map (·.data.toList)) [32]).toArray⟩):=⟨by
  unfold strings_Join.f
  rw [if_pos]
  ·refine ⟨by omega,?_⟩;simp only [lineL,List.length_append,List.length_cons,List.length_nil] at hlen;show (Lib.join (ws.map (·.data.toList)) [32]).length≤_
   omega⟩
 have HC:=aC.mk hC;have HB:=aC.mk h;have HL:=aC.mk hlen;have HBW:=aC.mk hBw;have hle:ws.length≤ws.length:=Nat.le_refl _;have HLE:=aC.mk hle;clear h hBw hC hlen hws hwl hle;go_enter Tryd.func45,Tryd.ntmps45
 go_wp2_with fail
 refine (strings_Join.calls _ _ ws _ _ _ HC.out HLE.out HJ.out).mono ?_
 rintro e w1 ⟨rfl,fM⟩
 have cY:=aC.mk fM;have amJ:=aC.mk (agO HB.out fM);clear fM;have hse:Lib.strCells (⟨(Lib.join (ws.map (·.data.toList)) [32]).toArray⟩++⟨#[10]⟩:ByteArray)=Lib.byteCells (lineL ws):=by
  rw [Lib.strCells_eq];simp [lineL,ByteArray.data_append]
 have hsz:(⟨(Lib.join (ws.map (·.data.toList)) [32]).toArray⟩++⟨#[10]⟩:ByteArray).size=(lineL ws).length:=by
  rw [← Lib.strCells_length,hse,Lib.byteCells_length]
 have lC:(⟨(Lib.join (ws.map (·.data.toList)) [32]).toArray⟩:ByteArray).size+1=(lineL ws).length:=by
  rw [← hsz,ByteArray.size_append];rfl
 generalize (⟨(Lib.join (ws.map (·.data.toList)) [32]).toArray⟩:ByteArray)=s1 at hse hsz lC ⊢;have q1:(s1.size+1≤9223372036854775807)=True:=eq_true (by have:=HL.out;omega);have q2:(9223372036854775807<s1.size+1)=False:=eq_false (by have:=HL.out;omega);have q3:decide (s1.size+1≤9223372036854775807)=true:=decide_eq_true (by have:=HL.out;omega);have HSE:=aC.mk (And.intro hse hsz);clear hse hsz lC HJ;go_wp2_with fail
 clear q1 q2 q3;refine (avT B b bs _ _ amJ.out (by rw [HSE.out.2];have:=HL.out;omega) (Nat.le_trans HBW.out cY.out.size)).mono ?_
 rintro e w2 ⟨rfl,h2,bR⟩
 rw [HSE.out.1] at h2;have vL:=aC.mk h2;have cR:=aC.mk ((Below.mono cY.out HBW.out).trans bR);clear h2 bR;go_wp2_with fail
 go_end0
 exact ⟨rfl,.inr vL.out,cR.out⟩
def bodyL (b:List St6):List UInt8:=Lib.join ((blW b).map (·.data.toList)) [32]
def declL (t:ByteArray) (d:De6):List UInt8:=lineL [t,d.f0]
def funcL (f:Fn6):List UInt8:=lineL [funcT,f.f0,⟨(bodyL f.f2).toArray⟩]
def textL (vs ls:List De6) (fs:List Fn6):List UInt8:=vs.flatMap (declL varT)++(ls.flatMap (declL lockT)++fs.flatMap funcL)
def textOk (vs ls:List De6) (fs:List Fn6):Bool:=decide ((textL vs ls fs).length≤1000000000) && fs.all fun f=>lsK f.f2 && decide ((lsW f.f2).length≤1000000)
def wJ.f (vs ls:List De6) (fs:List Fn6):Option ByteArray:=if textOk vs ls fs=true then some ⟨(textL vs ls fs).toArray⟩ else none
theorem anN (n:ByteArray) (a:Int) (b:List St6) (hk:lsK b=true) (hb:(lsW b).length≤1000000) (hl:(bodyL b).length≤1000000000): ∃ k,xA.f k n a b=some ⟨(bodyL b).toArray⟩:=by
 refine EvS.OR ?_
 unfold xA.f
 refine EvS.bind (KG b hk (by omega)) ?_
 refine EvS.bind1 (a:=⟨(bodyL b).toArray⟩) ?_ (.some_ _)
 unfold strings_Join.f
 rw [if_pos];·rfl
 ·refine ⟨by simp only [blW,List.length_cons,List.length_append,List.length_nil];omega,?_⟩;show (bodyL b).length≤_
  omega
theorem amB {P:Program} {ops:Array Oper} {Q:Exit→Act→World→Prop} {oi:Oper} {N:Option Tmp} {a:Act} {w:World} {K:Act→World→Prop} {f:FuncId} {fn:Func} {c:Operand} {as_:Array Operand} {ts:Array TypeId} {cap:Array Value} (hf:P.funcs[f]? =some fn) (hname:(fn.name== "runtime.NumGoroutine")=false) (hb:fn.body.isSome=true) (ajS args:Array Value)
  (hw:Region.wanted oi (yielded ops a.tmps)=true) (hN:oi.dst=N) (hop:oi.op= .call { callee:=.value c,args:=as_,argTypes:=ts }) (hc:a.eval c= .func (.func f) #[] cap) (hargs:as_.map a.eval=ajS) (hall:ajS++cap=args)
  (h:Calls P f args w fun e w'=>∃ v,e= .returned v∧K (a.put N v) w'):if Region.wanted oi (yielded ops a.tmps)=true then Oper.wp P oi a w K Q else K (a.put N undef) w:=by
 refine akH f args hw hN ?_ h;have he:=OF hf hname hb args w;subst hall;unfold execOp
 simp [hop,resolve,Deferred.ofValue,invoke,hc,hargs,he]
structure TI (w wr:World) (b:Nat) (s1 s2 s3:Value) (l:List UInt8):Prop where
 blk:wr.heap[w.heap.size]? =some (.cells #[s1,s2,s3] 30 (0,0))
 bu:Lib.IsBuilder 90 5 b b (Lib.byteCells l) wr
 bel:Below w.heap.size w wr
 bw:b≤wr.heap.size
 beq:b=w.heap.size+1
theorem TI.below {w wr w1:World} {b:Nat} {s1 s2 s3:Value} {l:List UInt8} (h:TI w wr b s1 s2 s3 l) (hb:Below wr.heap.size wr w1):TI w w1 b s1 s2 s3 l:=
 ⟨dB h.blk hb,agO h.bu hb,bQ h.bel hb,Nat.le_trans h.bw hb.size,h.beq⟩
theorem TI.line {w wr w1:World} {b:Nat} {s1 s2 s3:Value} {l m:List UInt8} (h:TI w wr b s1 s2 s3 l) (hi:Lib.IsBuilder 90 5 b b (Lib.byteCells l++Lib.byteCells m) w1) (hb:Below b wr w1):TI w w1 b s1 s2 s3 (l++m):=by
 refine ⟨(hb.block _ (by have:=h.beq;omega)).trans h.blk,?_,h.bel.trans (Below.mono hb (by have:=h.beq;omega)),Nat.le_trans h.bw hb.size,h.beq⟩;rw [show Lib.byteCells (l++m)=Lib.byteCells l++Lib.byteCells m from by simp [Lib.byteCells]];exact hi
theorem TI.write {w wr:World} {b g:Nat} {s1 s2 s3:Value} {l:List UInt8} {ws:List ByteArray} (h:TI w wr b s1 s2 s3 l) (hg:wr.heap[g]? =some (.cells (ws.map Value.string).toArray 9 (0,0))) (hws:ws≠ []) (hlen:l.length+(lineL ws).length≤1000000000) (hwl:ws.length≤3):
  Calls Tryd.prog 45 #[.slice (some ⟨g,0,none⟩) ws.length ws.length,.pointer (some ⟨b,0,none⟩)] wr fun e w'=>e= .returned (.tuple #[])∧TI w w' b s1 s2 s3 (l++lineL ws):=by
 refine (av2 h.bu h.bw (abH hg (by omega)) hws (by rw [Lib.byteCells_length];exact hlen) hwl).mono ?_
 rintro e w' ⟨rfl,hi,hb⟩
 exact ⟨rfl,h.line hi hb⟩
theorem DK {α:Type} (f:α→List UInt8) (xs:List α) (i:Nat) (h:i<xs.length):(xs.take (i+1)).flatMap f=(xs.take i).flatMap f++f xs[i]:=by
 rw [← List.take_append_getElem h,List.flatMap_append];simp only [List.flatMap_cons,List.flatMap_nil,List.append_nil]
theorem YA {α:Type} (f:α→List UInt8) (xs:List α) (i:Nat):((xs.take i).flatMap f).length≤(xs.flatMap f).length:=by
 conv=>rhs;rw [← List.take_append_drop i xs]
 rw [List.flatMap_append,List.length_append];omega
theorem ME {α:Type} (f:α→List UInt8) (h: ∀ x,1≤(f x).length): ∀ (xs:List α),xs.length≤(xs.flatMap f).length
 |[]=>by simp
 |x::r=>by have:=ME f h r;have:=h x;simp only [List.length_cons,List.flatMap_cons,List.length_append];omega
theorem YV (ws:List ByteArray):1≤(lineL ws).length:=by simp [lineL]
set_option maxRecDepth 100000 in
set_option maxHeartbeats 1600000 in
theorem wJ.calls (gR:Option Addr) (gN:Nat) (cD:List De6) (gP:Option Addr) (gQ:Nat) (cH:List De6) (eY:Option Addr) (eO:Nat) (bK:List Fn6) (r:ByteArray) (w:World) (uF:Kd.C k59 w gR cD.length cD) (tU:cD.length≤gN) (sV:Kd.C k59 w gP cH.length cH) (u6:cH.length≤gQ) (nM:Kd.C k46 w eY bK.length bK) (oC:bK.length≤eO) (h:wJ.f cD cH bK=some r) (hG:GL w):
  Calls Tryd.prog 23 #[.agg #[.slice gR cD.length gN,.slice gP cH.length gQ,.slice eY bK.length eO]] w fun e w'=>e= .returned (.string r)∧Below w.heap.size w w':=by
 have wQ:=Tryd.underlying30;have YF:=Tryd.underlying59;have IQ:=Tryd.underlying46;have hmf: ∀ (fn:Fn) (first cap:Array Value) (w:World),(Instr.makeFunc fn first cap).run Tryd.prog w= .ok (.func fn first cap) w:=fun _ _ _ _=>rfl
 unfold wJ.f at h
 split at h
 case isFalse=>cases h
 rename_i hok
 obtain rfl:=Option.some.inj h;simp only [textOk,Bool.and_eq_true,decide_eq_true_eq] at hok;have HOK:=aC.mk hok;have pZ:=aC.mk uF;have uJ:=aC.mk sV;have DV:=aC.mk nM;have abE:=aC.mk tU;have ZQ:=aC.mk u6;have H6:=aC.mk oC;have HG:=aC.mk hG;clear hok uF sV nM tU u6 oC hG h;have s1:(w.alloc (.cells #[.slice gR cD.length gN,.slice gP cH.length gQ,.slice eY bK.length eO] 30)).heap.size=w.heap.size+1:=by simp only [World.alloc,Array.size_push]
 have rE:aC (TI w ((w.alloc (.cells #[.slice gR cD.length gN,.slice gP cH.length gQ,.slice eY bK.length eO] 30)).alloc (.cells #[.pointer none,.slice none 0 0] 90)) (w.heap.size+1) (.slice gR cD.length gN) (.slice gP cH.length gQ) (.slice eY bK.length eO) []):=⟨by
  have hbn:=gC (w.alloc (.cells #[.slice gR cD.length gN,.slice gP cH.length gQ,.slice eY bK.length eO] 30)) (.cells #[.pointer none,.slice none 0 0] 90);rw [s1] at hbn;refine ⟨aQ (gC w _) _,.inl ⟨Nat.le_refl _,_,hbn,⟨rfl,.inl ⟨rfl,rfl⟩⟩,by simp [Value.ownBlock]⟩,aI (aI (Below.refl _ _) _) _,?_,rfl⟩;simp only [World.alloc,Array.size_push];omega⟩
 go_enter Tryd.func23,Tryd.ntmps23
 go_upto_region 3 with fail
 try rw [s1]
 clear s1;generalize (w.alloc (.cells #[.slice gR cD.length gN,.slice gP cH.length gQ,.slice eY bK.length eO] 30)).alloc (.cells #[.pointer none,.slice none 0 0] 90)=Y at rE ⊢;generalize hb_:w.heap.size+1=b at rE ⊢;clear hb_;have k_:=aD rE.out.blk 0;go_wp2_with fail
 clear k_;go_loopg [15] (cD.length+1) (fun q v_ wr=>∃ i:Nat,v_= .int .i64 (i:Int)∧aC (q+i=cD.length+1∧i≤cD.length)∧aC (TI w wr b (.slice gR cD.length gN) (.slice gP cH.length gQ) (.slice eY bK.length eO) ([]++(cD.take i).flatMap (declL varT))))
 case atStart=>exact ⟨0,rfl,⟨by omega,by omega⟩,by simpa using rE⟩
 case round=>
  obtain ⟨i,rfl,HQ,HR⟩:=hrel;by_cases hi:i<cD.length
  ·have d1:decide ((i:Int)<(cD.length:Int))=true:=decide_eq_true (by omega);have d2:decide (i<cD.length)=true:=decide_eq_true hi;obtain ⟨ad,rfl,t0,t1⟩:=wD (Kd.cN pZ.out HR.out.bel) (i:Int) (by omega) (by omega);rw [Int.toNat_natCast] at t0 t1;have HRD:aC (dE cD (i:Int)=cD[i]):=⟨by unfold dE;rw [Int.toNat_natCast,List.getD_eq_getElem?_getD,List.getElem?_eq_getElem hi,Option.getD_some]⟩;generalize dE cD (i:Int)=x at t0 t1 HRD;have HI:=aC.mk hi;replace hi:=eq_true hi;go_upto_region 6 with fail
   have HZ:=aC.mk (HR.out.below (aI (Below.refl _ _) (.cells #[.string x.f0,.int .i64 x.f1] 59)));have z0:=aD (gC wr (.cells #[.string x.f0,.int .i64 x.f1] 59)) 0;generalize wr.heap.size=sz at z0 ⊢;generalize wr.alloc (.cells #[.string x.f0,.int .i64 x.f1] 59)=Z at HZ z0 ⊢;clear t0 t1;have HV:=aC.mk (HZ.out.below (aI (Below.refl _ _) (.cells #[.string varT,.string x.f0] 9)));have HN:=aC.mk (gC Z (.cells #[.string varT,.string x.f0] 9));go_wp2_with fail
   have hlen:([]++(cD.take i).flatMap (declL varT)).length+(lineL [varT,x.f0]).length≤1000000000:=by
    have h1:=HOK.out.1;have h2:=DK (declL varT) cD i HI.out;have h3:=YA (declL varT) cD (i+1);rw [h2,← HRD.out,List.length_append] at h3;have h4:(declL varT x).length=(lineL [varT,x.f0]).length:=rfl;simp only [textL,List.length_append,List.length_nil] at h1 ⊢;omega
   refine (TI.write (ws:=[varT,x.f0]) HV.out HN.out (by simp) hlen (by simp)).mono ?_
   rintro E w4 ⟨rfl,h4⟩
   have H4:=aC.mk h4;clear h4 hlen;have bi:(i:Int)<1000000000:=by
    have h1:=HOK.out.1;have h2:=ME (declL varT) (fun x=>YV _) cD;have h3:=HI.out;simp only [textL,List.length_append] at h1;omega
   go_wp2_with fail
   go_roundg (gk - 1)
   case rel=>
    refine ⟨i+1,by go_num,⟨by have:=HQ.out;have:=HI.out;omega,by have:=HI.out;omega⟩,⟨?_⟩⟩;have h5:=H4.out;rw [List.append_assoc] at h5;have h6:=DK (declL varT) cD i HI.out;rw [← HRD.out] at h6;rw [h6];exact h5
   case measure=>have:=HQ.out;have:=HI.out;omega
  ·have d1:decide ((i:Int)<(cD.length:Int))=false:=decide_eq_false (by omega);have d2:decide (i<cD.length)=false:=decide_eq_false hi;obtain rfl:i=cD.length:=by have:=HQ.out;omega
   have RI:=aC.mk HR.out;rw [List.take_length] at RI;clear hi;go_upto_region 8 with fail
   generalize wr=Y1 at *;have k_:=aD RI.out.blk 1;go_wp2_with fail
   clear k_;go_loopg [28] (cH.length+1) (fun q v_ wr=>∃ i:Nat,v_= .int .i64 (i:Int)∧aC (q+i=cH.length+1∧i≤cH.length)∧aC (TI w wr b (.slice gR cD.length gN) (.slice gP cH.length gQ) (.slice eY bK.length eO) (([]++cD.flatMap (declL varT))++(cH.take i).flatMap (declL lockT))))
   case atStart=>exact ⟨0,rfl,⟨by omega,by omega⟩,by simpa using RI⟩
   case round=>
    obtain ⟨i,rfl,HQ,HR⟩:=hrel;by_cases hi:i<cH.length
    ·have d1:decide ((i:Int)<(cH.length:Int))=true:=decide_eq_true (by omega);have d2:decide (i<cH.length)=true:=decide_eq_true hi;obtain ⟨ad,rfl,t0,t1⟩:=wD (Kd.cN uJ.out HR.out.bel) (i:Int) (by omega) (by omega);rw [Int.toNat_natCast] at t0 t1;have HRD:aC (dE cH (i:Int)=cH[i]):=⟨by unfold dE;rw [Int.toNat_natCast,List.getD_eq_getElem?_getD,List.getElem?_eq_getElem hi,Option.getD_some]⟩;generalize dE cH (i:Int)=x at t0 t1 HRD;have HI:=aC.mk hi;replace hi:=eq_true hi;go_upto_region 11 with fail
     have HZ:=aC.mk (HR.out.below (aI (Below.refl _ _) (.cells #[.string x.f0,.int .i64 x.f1] 59)));have z0:=aD (gC wr (.cells #[.string x.f0,.int .i64 x.f1] 59)) 0;generalize wr.heap.size=sz at z0 ⊢;generalize wr.alloc (.cells #[.string x.f0,.int .i64 x.f1] 59)=Z at HZ z0 ⊢;clear t0 t1;have HV:=aC.mk (HZ.out.below (aI (Below.refl _ _) (.cells #[.string lockT,.string x.f0] 9)));have HN:=aC.mk (gC Z (.cells #[.string lockT,.string x.f0] 9));go_wp2_with fail
     have hlen:(([]++cD.flatMap (declL varT))++(cH.take i).flatMap (declL lockT)).length+(lineL [lockT,x.f0]).length≤1000000000:=by
      have h1:=HOK.out.1;have h2:=DK (declL lockT) cH i HI.out;have h3:=YA (declL lockT) cH (i+1);rw [h2,← HRD.out,List.length_append] at h3;have h4:(declL lockT x).length=(lineL [lockT,x.f0]).length:=rfl;simp only [textL,List.length_append,List.length_nil] at h1 ⊢;omega
     refine (TI.write (ws:=[lockT,x.f0]) HV.out HN.out (by simp) hlen (by simp)).mono ?_
     rintro E w4 ⟨rfl,h4⟩
     have H4:=aC.mk h4;clear h4 hlen;have bi:(i:Int)<1000000000:=by
      have h1:=HOK.out.1;have h2:=ME (declL lockT) (fun x=>YV _) cH;have h3:=HI.out;simp only [textL,List.length_append] at h1;omega
     go_wp2_with fail
     go_roundg (gk - 1)
     case rel=>
      refine ⟨i+1,by go_num,⟨by have:=HQ.out;have:=HI.out;omega,by have:=HI.out;omega⟩,⟨?_⟩⟩;have h5:=H4.out;rw [List.append_assoc] at h5;have h6:=DK (declL lockT) cH i HI.out;rw [← HRD.out] at h6;rw [h6];exact h5
     case measure=>have:=HQ.out;have:=HI.out;omega
    ·have d1:decide ((i:Int)<(cH.length:Int))=false:=decide_eq_false (by omega);have d2:decide (i<cH.length)=false:=decide_eq_false hi;obtain rfl:i=cH.length:=by have:=HQ.out;omega
     have sB:=aC.mk HR.out;rw [List.take_length] at sB;clear hi;go_upto_region 13 with fail
     generalize wr=Y2 at *;have k_:=aD sB.out.blk 2;go_wp2_with fail
     clear k_;go_loopg [41] (bK.length+1) (fun q v_ wr=>∃ i:Nat,v_= .int .i64 (i:Int)∧aC (q+i=bK.length+1∧i≤bK.length)∧aC (TI w wr b (.slice gR cD.length gN) (.slice gP cH.length gQ) (.slice eY bK.length eO) (([]++cD.flatMap (declL varT)++cH.flatMap (declL lockT))++(bK.take i).flatMap funcL)))
     case atStart=>exact ⟨0,rfl,⟨by omega,by omega⟩,by simpa using sB⟩
     case round=>
      obtain ⟨i,rfl,HQ,HR⟩:=hrel;by_cases hi:i<bK.length
      ·have d1:decide ((i:Int)<(bK.length:Int))=true:=decide_eq_true (by omega);have d2:decide (i<bK.length)=true:=decide_eq_true hi;obtain ⟨ad,A5,c5,rfl,t0,t1,t2,l5,C5⟩:=vJ (Kd.cN DV.out HR.out.bel) (i:Int) (by omega) (by omega);rw [Int.toNat_natCast] at t0 t1 t2;have HRD:aC (bF bK (i:Int)=bK[i]):=⟨by unfold bF;rw [Int.toNat_natCast,List.getD_eq_getElem?_getD,List.getElem?_eq_getElem hi,Option.getD_some]⟩;have hkx:lsK (bK[i]).f2=true∧(lsW (bK[i]).f2).length≤1000000:=by
        have h1:=List.all_eq_true.mp HOK.out.2 _ (List.getElem_mem hi);simpa using h1
       rw [← HRD.out] at hkx;generalize bF bK (i:Int)=x at t0 t1 t2 l5 C5 HRD hkx;have HI:=aC.mk hi;have hlen:(([]++cD.flatMap (declL varT)++cH.flatMap (declL lockT))++(bK.take i).flatMap funcL).length+(lineL [funcT,x.f0,⟨(bodyL x.f2).toArray⟩]).length≤1000000000:=by
        have h1:=HOK.out.1;have h2:=DK funcL bK i HI.out;have h3:=YA funcL bK (i+1);rw [h2,← HRD.out,List.length_append] at h3;have h4:(funcL x).length=(lineL [funcT,x.f0,⟨(bodyL x.f2).toArray⟩]).length:=rfl;simp only [textL,List.length_append,List.length_nil] at h1 ⊢;omega
       obtain ⟨kb,hkb⟩:=anN x.f0 x.f1 x.f2 hkx.1 hkx.2 (by
        have h1:(lineL [funcT,x.f0,⟨(bodyL x.f2).toArray⟩]).length=(Lib.join ([funcT,x.f0,⟨(bodyL x.f2).toArray⟩].map (·.data.toList)) [32]).length+1:=by simp [lineL]
        have h2:(bodyL x.f2).length≤(Lib.join ([funcT,x.f0,⟨(bodyL x.f2).toArray⟩].map (·.data.toList)) [32]).length:=by
         simp [Lib.join]
         omega
        omega)
       have HBO:=aC.mk hkb;have zL:=aC.mk C5;have YP:=aC.mk l5;replace hi:=eq_true hi;clear hkx hkb C5 l5;go_upto_region 16 with fail
       have HZ:=aC.mk (HR.out.below (aI (Below.refl _ _) (.cells #[.string x.f0,.int .i64 x.f1,.slice A5 x.f2.length c5] 46)));have HGZ:=aC.mk (HG.out.fS HZ.out.bel);have zL:=aC.mk (Kd.cN zL.out (aI (Below.refl _ _) (.cells #[.string x.f0,.int .i64 x.f1,.slice A5 x.f2.length c5] 46)));have f0:=aD (gC wr (.cells #[.string x.f0,.int .i64 x.f1,.slice A5 x.f2.length c5] 46)) 0;have f1:=aD (gC wr (.cells #[.string x.f0,.int .i64 x.f1,.slice A5 x.f2.length c5] 46)) 1;have f2:=aD (gC wr (.cells #[.string x.f0,.int .i64 x.f1,.slice A5 x.f2.length c5] 46)) 2;generalize wr.heap.size=sz at f0 f1 f2 ⊢;generalize wr.alloc (.cells #[.string x.f0,.int .i64 x.f1,.slice A5 x.f2.length c5] 46)=Z at HZ HGZ zL f0 f1 f2 ⊢;clear t0 t1 t2
       -- REGION 16 (gen_text16.py)
       refine mK (n:=7) (S:=fun w'=>w'.cell? ⟨sz,0,none⟩=some (.string x.f0)∧w'.cell? ⟨sz,1,none⟩=some (.int .i64 x.f1)∧w'.cell? ⟨sz,2,none⟩=some (.slice A5 x.f2.length c5)) (ds:=[6]) #[false,false,false,false,false,false,false] (by kernel_rfl) rfl rfl ⟨f0,f1,f2⟩ (fun hHeld=>?_);refine bE (i:=0) (N:=some 45) (v:=?_) (a':=?_) #[true,false,false,false,false,false,false] rfl rfl (by kernel_rfl) (fun _ _ _ h=>h) (Or.inl ⟨by rfl,?_⟩) ?_ ?_
       rotate_left;·intro w';go_simp;with_reducible rfl
       rotate_left;·simp only [Act.put,q1_,q2_,q3_,aG,aH];rfl
       refine bE (i:=1) (N:=some 46) (v:=?_) (a':=?_) #[true,true,false,false,false,false,false] rfl rfl (by kernel_rfl) (fun _ _ _ h=>h) (Or.inl ⟨by rfl,?_⟩) ?_ ?_
       rotate_left;·intro w';go_simp;with_reducible rfl
       rotate_left;·simp only [Act.put,q1_,q2_,q3_,aG,aH];rfl
       refine eC (i:=2) (N:=some 47) (v:=?_) (a':=?_) #[true,true,true,false,false,false,false] rfl rfl (by kernel_rfl) (fun _ _ _ h=>h) (Or.inl ⟨by rfl,?_⟩) hHeld ?_ ?_
       rotate_left
       ·rintro w' ⟨s0,s1,s2⟩
        go_simp;with_reducible rfl
       rotate_left;·simp only [Act.put,q1_,q2_,q3_,aG,aH];rfl
       refine eC (i:=3) (N:=some 48) (v:=?_) (a':=?_) #[true,true,true,true,false,false,false] rfl rfl (by kernel_rfl) (fun _ _ _ h=>h) (Or.inl ⟨by rfl,?_⟩) hHeld ?_ ?_
       rotate_left
       ·rintro w' ⟨s0,s1,s2⟩
        go_simp;with_reducible rfl
       rotate_left;·simp only [Act.put,q1_,q2_,q3_,aG,aH];rfl
       refine one_ (i:=4) (N:=some 49) #[true,true,true,true,true,false,false] rfl rfl (by kernel_rfl) (by decide) (fun K hK=>?_);refine mM Tryd.func24 (by kernel_rfl) rfl #[.agg #[.string x.f0,.int .i64 x.f1,.slice A5 x.f2.length c5]] (by rfl) rfl rfl (by simp only [List.map_toArray,List.map_cons,List.map_nil];rfl) ?_
       with_reducible refine (xA.calls kb x.f0 x.f1 A5 c5 x.f2 ⟨(bodyL x.f2).toArray⟩ _ (Kd.cN zL.out (aJ (Below.refl Z.heap.size Z))) YP.out HBO.out (HGZ.out.fS (aJ (Below.refl Z.heap.size Z)))).mono ?_
       rintro E w6 ⟨rfl,hb_⟩
       refine ⟨_,rfl,?_⟩;have AE:=aC.mk (bQ (aJ (Below.refl Z.heap.size Z)) hb_);clear hb_;refine hK.out _ _ ⟨(AE.out.cell (World.block_lt_of_cell? Z _ f0)).trans f0,(AE.out.cell (World.block_lt_of_cell? Z _ f1)).trans f1,(AE.out.cell (World.block_lt_of_cell? Z _ f2)).trans f2⟩ (fun hHeld=>?_);clear hK K;refine aZ (a':=?_) ?_ ?_
       rotate_left
       ·show Act.put _ (some 49) _=_
        simp only [Act.put,q1_,q2_,q3_,aG,aH];rfl
       refine one_ (i:=5) (N:=some 50) #[true,true,true,true,true,true,false] rfl rfl (by kernel_rfl) (by decide) (fun K hK=>?_);refine dG (w1:=?_) (v:=?_) (by rfl) rfl ?_ ?_
       rotate_left 2
       ·go_simp;constructor
        ·rfl
        ·rfl
       refine hK.out _ _ ⟨((aI AE.out _).cell (World.block_lt_of_cell? Z _ f0)).trans f0,((aI AE.out _).cell (World.block_lt_of_cell? Z _ f1)).trans f1,((aI AE.out _).cell (World.block_lt_of_cell? Z _ f2)).trans f2⟩ (fun hHeld=>?_);clear hK K;refine aZ (a':=?_) ?_ ?_
       rotate_left
       ·show Act.put _ (some 50) _=_
        simp only [Act.put,q1_,q2_,q3_,aG,aH];rfl
       refine nZ (i:=6) (N:=some 51) #[true,true,true,true,true,true,true] rfl rfl (by kernel_rfl) (by decide) (fun K hK=>?_);refine amB Tryd.func45 (by kernel_rfl) rfl #[.slice (some ⟨w6.heap.size,0,none⟩) 3 3] #[.slice (some ⟨w6.heap.size,0,none⟩) 3 3,.pointer (some ⟨b,0,none⟩)] (by rfl) rfl rfl (by rfl) (by simp only [List.map_toArray,List.map_cons,List.map_nil];rfl) (by rfl) ?_
       have axV:=aC.mk ((HZ.out.below AE.out).below (aI (Below.refl _ _) (.cells #[.string funcT,.string x.f0,.string ⟨(bodyL x.f2).toArray⟩] 9)));refine (TI.write (ws:=[funcT,x.f0,⟨(bodyL x.f2).toArray⟩]) axV.out (gC w6 _) (by simp) hlen (by simp)).mono ?_
       rintro E w8 ⟨rfl,h4⟩
       refine ⟨_,rfl,?_⟩;have H4:=aC.mk h4;clear h4;refine hK.out _ _ ?_
       clear hK K;refine aZ (a':=?_) ?_ ?_
       rotate_left
       ·show Act.put _ (some 51) _=_
        simp only [Act.put,q1_,q2_,q3_,aG,aH];rfl
       refine mP (by kernel_rfl) ?_
       -- END REGION
       clear hHeld f0 f1 f2;have bi:(i:Int)<1000000000:=by
        have h1:=HOK.out.1;have h2:=ME funcL (fun x=>YV _) bK;have h3:=HI.out;simp only [textL,List.length_append] at h1;omega
       go_wp2
       go_roundg (gk - 1)
       case rel=>
        refine ⟨i+1,by go_num,⟨by have:=HQ.out;have:=HI.out;omega,by have:=HI.out;omega⟩,⟨?_⟩⟩;have h5:=H4.out;rw [List.append_assoc] at h5;have h6:=DK funcL bK i HI.out;rw [← HRD.out] at h6;rw [h6];exact h5
       case measure=>have:=HQ.out;have:=HI.out;omega
      ·have d1:decide ((i:Int)<(bK.length:Int))=false:=decide_eq_false (by omega);have d2:decide (i<bK.length)=false:=decide_eq_false hi;obtain rfl:i=bK.length:=by have:=HQ.out;omega
       have KV:=aC.mk HR.out;rw [List.take_length] at KV;clear hi;go_wp2_with fail
       refine (Tryd.Builder_String_any b b _ _ KV.out.bu KV.out.bw).mono ?_
       rintro E w9 ⟨rfl,L8⟩
       have OD:=aC.mk (KV.out.bel.trans (Below.mono L8 (by have:=KV.out.beq;omega)));clear L8;go_wp2_with fail
       go_ret
       refine ⟨?_,OD.out⟩;simp only [textL,List.nil_append,List.append_assoc];rfl
end Go.Proofs.YtkmafndljelopaaDoor.Q
