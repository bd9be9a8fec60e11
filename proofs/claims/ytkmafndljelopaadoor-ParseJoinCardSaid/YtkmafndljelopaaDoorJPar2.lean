/- Par2: put together by wip/merge.py. -/
import Derived.Test.YtkmafndljelopaaDoorJPar1
import Derived.Deep.LoopGhost
import Derived.WalkSpells
import Derived.Laws.IdiomCopy
namespace Go.Proofs.YtkmafndljelopaaDoor.Q
open Go.RowKit Go.Proofs.YtkmafndljelopaaDoorW.PrintWords Go.Proofs.YtkmafndljelopaaDoorW.PrintLast Go.Proofs.YtkmafndljelopaaDoorW.PrintMore Go.Proofs.YtkmafndljelopaaDoor.Lx
set_option linter.unusedVariables false
set_option linter.unusedSimpArgs false
abbrev De6:=S59
abbrev Fn6:=S46
structure P6 where
 vs:List De6
 ls:List De6
 fs:List Fn6
def varT:ByteArray:=⟨#[118,97,114]⟩
def lockT:ByteArray:=⟨#[108,111,99,107]⟩
def funcT:ByteArray:=⟨#[102,117,110,99]⟩
def nameW {α:Type} (e:Int) (l:List Tok6) (k:ByteArray→List Tok6→Out α):Out α:=
 if (nx l e).f0=1∧nameB (nx l e).f2.data.toList=true then k (nx l e).f2 l.tail else .bad (nx l e).f1 7
def declW (e:Int) (bl:List Tok6→Out (List St6)) (l:List Tok6) (p:P6):Out P6:=
 if (nx l e).f2=varT then nameW e l.tail fun n r=>.ok ⟨p.vs++ [⟨n,(nx l e).f1⟩],p.ls,p.fs⟩ r
 else if (nx l e).f2=lockT then nameW e l.tail fun n r=>.ok ⟨p.vs,p.ls++ [⟨n,(nx l e).f1⟩],p.fs⟩ r
 else if (nx l e).f2=funcT then nameW e l.tail fun n r=>match bl r with
  | .bad a b=>.bad a b
  | .ok b r2=>.ok ⟨p.vs,p.ls,p.fs++ [⟨n,(nx l e).f1,b⟩]⟩ r2
 else .bad (nx l e).f1 7
theorem at0 {w:World} {A:Option Addr} {l:List Tok6} (h:Kd.C k108 w A l.length l) {p:Addr} (u:Value) (hA: ∀ a,A=some a→a.block≠p.block):Kd.C k108 (w.setCell p u) A l.length l:=by
 refine ⟨h.1,h.2.1,fun hp=>?_⟩;obtain ⟨ad,e,hc⟩:=h.2.2 hp;refine ⟨ad,e,fun j q hj=>?_⟩;obtain ⟨c,h1,h2,h3⟩:=hc j q hj;refine ⟨c,h1,?_,fun i u' hi=>?_⟩;·obtain rfl:=aaR h2;exact aw1 _ q
 ·have h4:=h3 i u' hi;have hb:(ad.add (j * k108.sz+i)).block=ad.block:=by unfold Addr.add;split<;>rfl
  exact (World.cell?_of_block (w:=w) (Below.heap_setCell w p u _ (by rw [hb];exact hA ad e))).trans h4
theorem arO {w w':World} {o j:Nat} {u:Value} (h:w'.heap[o]? =w.heap[o]?):(w'.setCell ⟨o,j,none⟩ u).heap[o]? =(w.setCell ⟨o,j,none⟩ u).heap[o]? :=by
 simp only [World.setCell,Array.getElem?_modify,if_true,h]
theorem Ps.low {w0 w:World} {g o j:Nat} {l:List Tok6} {e:Int} {cs:Array Value} (h:Ps w0 w g l e) (hog:o≠g) (hol:o<w0.heap.size) (ho:w0.heap[o]? =some (.cells cs 30 (0,0))) (u:Value):
  Ps (w0.setCell ⟨o,j,none⟩ u) (w.setCell ⟨o,j,none⟩ u) g l e:=by
 obtain ⟨A,c,h1,h2,h3,h4⟩:=h.blk;have hsz:(w0.setCell ⟨o,j,none⟩ u).heap.size=w0.heap.size:=by simp [World.setCell]
 have hne: ∀ a,A=some a→a.block≠o:=fun a ha he=>by
  obtain ⟨cs',hc⟩:=h4 a ha;rw [he,ho] at hc;injection hc with hc
  injection hc with _ hc _
  exact absurd hc (by decide)
 refine ⟨⟨A,c,dT h1 (p:=⟨o,j,none⟩) hog.symm u,h2,at0 h3 u hne,fun a ha=>?_⟩,by rw [hsz];exact h.ge,?_⟩;·obtain ⟨cs',hc⟩:=h4 a ha;exact ⟨cs',(Below.heap_setCell w0 ⟨o,j,none⟩ u a.block (hne a ha)).trans hc⟩
 ·refine ⟨h.bel.os,h.bel.tape,h.bel.output,by simpa [World.setCell] using h.bel.size,fun k hk=>?_⟩;rw [hsz] at hk;by_cases hko:k=o
  ·subst hko;exact arO (h.bel.block k hk)
  ·exact (Below.heap_setCell w ⟨o,j,none⟩ u k hko).trans ((h.bel.block k hk).trans (Below.heap_setCell w0 ⟨o,j,none⟩ u k hko).symm)
def Apt (base:Nat) (v v':Value) (k:Nat):Prop:=base≤k∧some k≠v.ownBlock∧some k≠v'.ownBlock
structure Pg (w0 w:World) (g o base:Nat) (l:List Tok6) (e:Int) (p:P6) (v1 v2 v3:Value):Prop where
 ps:Ps w0 w g l e
 blk:w.heap[o]? =some (.cells #[v1,v2,v3] 30 (0,0))
 r1:Kd.R k59 59 w base (Apt base v2 v3) v1 p.vs
 r2:Kd.R k59 59 w base (Apt base v1 v3) v2 p.ls
 r3:Kd.R k46 46 w base (Apt base v1 v2) v3 p.fs
 og:o≠g∧o<w0.heap.size∧g<base
theorem Pg.below {w0 w w':World} {g o base:Nat} {l:List Tok6} {e:Int} {p:P6} {v1 v2 v3:Value} (h:Pg w0 w g o base l e p v1 v2 v3) (hb:Below w.heap.size w w'):Pg w0 w' g o base l e p v1 v2 v3:=
 ⟨h.ps.below hb,dB h.blk hb,Kd.dC h.r1 hb,Kd.dC h.r2 hb,Kd.dC h.r3 hb,h.og⟩
theorem Pg.step {w0 w w':World} {g o base:Nat} {l l':List Tok6} {e:Int} {p:P6} {v1 v2 v3:Value} (h:Pg w0 w g o base l e p v1 v2 v3) (hP:Ps w0 w' g l' e) (hk:KeepBut w w' g none):Pg w0 w' g o base l' e p v1 v2 v3:=
 have hg: ∀ (v v':Value) k,Apt base v v' k→k≠g:=fun _ _ k hk'=>by have:=hk'.1;have:=h.og.2.2;omega
 ⟨hP,vH hk h.blk h.og.1,Kd.BJ h.r1 hk (hg _ _),Kd.BJ h.r2 hk (hg _ _),Kd.BJ h.r3 hk (hg _ _),h.og⟩
theorem Pg.FI {w0 w:World} {g o base:Nat} {l:List Tok6} {e:Int} {p:P6} {v1 v2 v3:Value} (h:Pg w0 w g o base l e p v1 v2 v3):w0.heap.size≤base:=by have:=h.ps.ge;have:=h.og.2.2;omega
theorem QC {α:Type} {d:Kd α} {e base:Nat} {W w1:World} {va va' vb v:Value} {xs:List α} (h:d.R e W base (Apt base va vb) v xs) (hg:W.grownBy w1 va.ownBlock) (hat:va'.ownBlock=va.ownBlock∨ ∃ b,va'.ownBlock=some b∧W.heap.size≤b):
  d.R e w1 base (Apt base va' vb) v xs:=by
 refine Kd.bW (Kd.ab9 (Kd.i1 h) hg (fun k hk=>hk.1.2.1)) (fun k hk=>⟨hk.1.1,?_,hk.1.2.2⟩);rcases hat with h1|⟨b,h1,h2⟩
 ·rw [h1];exact hk.1.2.1
 ·rw [h1];intro he;injection he with he
  have:=hk.2.2.1;omega
theorem TB {α:Type} {d:Kd α} {e base:Nat} {W w1:World} {va va' vb v:Value} {xs:List α} (h:d.R e W base (Apt base vb va) v xs) (hg:W.grownBy w1 va.ownBlock) (hat:va'.ownBlock=va.ownBlock∨ ∃ b,va'.ownBlock=some b∧W.heap.size≤b):
  d.R e w1 base (Apt base vb va') v xs:=
 Kd.bW (QC (Kd.bW h (fun k hk=>⟨hk.1,hk.2.2,hk.2.1⟩)) hg hat) (fun k hk=>⟨hk.1,hk.2.2,hk.2.1⟩)
theorem Apt.fresh {α β:Type} {d:Kd α} {d':Kd β} {e e' base:Nat} {W:World} {ok ok':Nat→Prop} {va vb:Value} {xs:List α} {ys:List β} (ha:d.R e W base ok va xs) (hb:d'.R e' W base ok' vb ys) (hle:base≤W.heap.size): ∀ k,W.heap.size≤k→Apt base va vb k:=fun k hk=>by
 refine ⟨Nat.le_trans hle hk,fun he=>?_,fun he=>?_⟩;·have:=((Kd.i1 ha).1 k he.symm).2.2.1;omega
 ·have:=((Kd.i1 hb).1 k he.symm).2.2.1;omega
theorem Ps.base {w0 w:World} {g:Nat} {l:List Tok6} {e:Int} (h:Ps w0 w g l e):w0.heap.size≤g:=h.ge
theorem Pg.push1 {w0 W w1:World} {g o base:Nat} {l:List Tok6} {e:Int} {p:P6} {v1 v2 v3 v:Value} {xs:List De6} (h:Pg w0 W g o base l e p v1 v2 v3) (ho:Kd.R k59 59 w1 base (Apt base v2 v3) v xs) (hg:W.grownBy w1 v1.ownBlock) (hat:v.ownBlock=v1.ownBlock∨ ∃ b,v.ownBlock=some b∧W.heap.size≤b):
  Pg (w0.setCell ⟨o,0,none⟩ v) (w1.setCell ⟨o,0,none⟩ v) g o base l e ⟨xs,p.ls,p.fs⟩ v v2 v3:=by
 have hob:=(Kd.i1 h.r1).1;have hb: ∀ k,v1.ownBlock=some k→base≤k:=fun k hk=>(hob k hk).1.1
 have hog:=h.og;have hbl:=h.FI;have abK:o<base:=Nat.lt_of_lt_of_le hog.2.1 hbl;have hP:Ps w0 w1 g l e:=h.ps.grown hg (fun k hk=>⟨Nat.le_trans hbl (hb k hk),by have:=hb k hk;omega⟩);have hbk:w1.heap[o]? =some (.cells #[v1,v2,v3] 30 (0,0)):=iY h.blk hg (fun he=>by have:=hb o he.symm;omega);have far: ∀ (a b:Value) k,Apt base a b k→k≠o:=fun _ _ k hk=>by have:=hk.1;omega
 refine ⟨hP.low hog.1 hog.2.1 (by rw [← hP.bel.block o hog.2.1];exact hbk) v,bX hbk 0 v rfl,Kd.bH ho (p:=⟨o,0,none⟩) (far _ _) v,Kd.bH (QC h.r2 hg hat) (p:=⟨o,0,none⟩) (far _ _) v,Kd.bH (QC h.r3 hg hat) (p:=⟨o,0,none⟩) (far _ _) v,hog.1,by simpa [World.setCell] using hog.2.1,hog.2.2⟩
theorem Pg.push2 {w0 W w1:World} {g o base:Nat} {l:List Tok6} {e:Int} {p:P6} {v1 v2 v3 v:Value} {xs:List De6} (h:Pg w0 W g o base l e p v1 v2 v3) (ho:Kd.R k59 59 w1 base (Apt base v1 v3) v xs) (hg:W.grownBy w1 v2.ownBlock) (hat:v.ownBlock=v2.ownBlock∨ ∃ b,v.ownBlock=some b∧W.heap.size≤b):
  Pg (w0.setCell ⟨o,1,none⟩ v) (w1.setCell ⟨o,1,none⟩ v) g o base l e ⟨p.vs,xs,p.fs⟩ v1 v v3:=by
 have hob:=(Kd.i1 h.r2).1;have hb: ∀ k,v2.ownBlock=some k→base≤k:=fun k hk=>(hob k hk).1.1
 have hog:=h.og;have hbl:=h.FI;have abK:o<base:=Nat.lt_of_lt_of_le hog.2.1 hbl;have hP:Ps w0 w1 g l e:=h.ps.grown hg (fun k hk=>⟨Nat.le_trans hbl (hb k hk),by have:=hb k hk;omega⟩);have hbk:w1.heap[o]? =some (.cells #[v1,v2,v3] 30 (0,0)):=iY h.blk hg (fun he=>by have:=hb o he.symm;omega);have far: ∀ (a b:Value) k,Apt base a b k→k≠o:=fun _ _ k hk=>by have:=hk.1;omega
 refine ⟨hP.low hog.1 hog.2.1 (by rw [← hP.bel.block o hog.2.1];exact hbk) v,bX hbk 1 v rfl,Kd.bH (QC h.r1 hg hat) (p:=⟨o,1,none⟩) (far _ _) v,Kd.bH ho (p:=⟨o,1,none⟩) (far _ _) v,Kd.bH (TB h.r3 hg hat) (p:=⟨o,1,none⟩) (far _ _) v,hog.1,by simpa [World.setCell] using hog.2.1,hog.2.2⟩
theorem Pg.push3 {w0 W w1:World} {g o base:Nat} {l:List Tok6} {e:Int} {p:P6} {v1 v2 v3 v:Value} {xs:List Fn6} (h:Pg w0 W g o base l e p v1 v2 v3) (ho:Kd.R k46 46 w1 base (Apt base v1 v2) v xs) (hg:W.grownBy w1 v3.ownBlock) (hat:v.ownBlock=v3.ownBlock∨ ∃ b,v.ownBlock=some b∧W.heap.size≤b):
  Pg (w0.setCell ⟨o,2,none⟩ v) (w1.setCell ⟨o,2,none⟩ v) g o base l e ⟨p.vs,p.ls,xs⟩ v1 v2 v:=by
 have hob:=(Kd.i1 h.r3).1;have hb: ∀ k,v3.ownBlock=some k→base≤k:=fun k hk=>(hob k hk).1.1
 have hog:=h.og;have hbl:=h.FI;have abK:o<base:=Nat.lt_of_lt_of_le hog.2.1 hbl;have hP:Ps w0 w1 g l e:=h.ps.grown hg (fun k hk=>⟨Nat.le_trans hbl (hb k hk),by have:=hb k hk;omega⟩);have hbk:w1.heap[o]? =some (.cells #[v1,v2,v3] 30 (0,0)):=iY h.blk hg (fun he=>by have:=hb o he.symm;omega);have far: ∀ (a b:Value) k,Apt base a b k→k≠o:=fun _ _ k hk=>by have:=hk.1;omega
 refine ⟨hP.low hog.1 hog.2.1 (by rw [← hP.bel.block o hog.2.1];exact hbk) v,bX hbk 2 v rfl,Kd.bH (TB h.r1 hg hat) (p:=⟨o,2,none⟩) (far _ _) v,Kd.bH (TB h.r2 hg hat) (p:=⟨o,2,none⟩) (far _ _) v,Kd.bH ho (p:=⟨o,2,none⟩) (far _ _) v,hog.1,by simpa [World.setCell] using hog.2.1,hog.2.2⟩
theorem SX {P:Program} {ops:Array Oper} {Q:Exit→Act→World→Prop} {oi:Oper} {N:Option Tmp} {a:Act} {w:World} {K:Act→World→Prop} {f:FuncId} {fn:Func} {as_:Array Operand} {ts:Array TypeId} (hf:P.funcs[f]? =some fn) (hname:(fn.name== "runtime.NumGoroutine")=false) (hb:fn.body.isSome=true) (args:Array Value)
  (hw:Region.wanted oi (yielded ops a.tmps)=true) (hN:oi.dst=N) (hop:oi.op= .call { callee:=.value (.func f),args:=as_,argTypes:=ts }) (hargs:as_.map a.eval=args)
  (h:Calls P f args w fun e w'=>(∃ v,e= .returned v∧K (a.put N v) w')∨(∃ c,e= .panicked c∧Q (.panic c) a w')):if Region.wanted oi (yielded ops a.tmps)=true then Oper.wp P oi a w K Q else K (a.put N undef) w:=by
 have he:=OF hf hname hb args w;have hrun:(execOp a.eval oi).run P w= .ok (.enter f args) w:=by
  unfold execOp
  simp [hop,resolve,Deferred.ofValue,invoke,Act.eval,hargs,he]
 rw [if_pos hw];subst hN;unfold Oper.wp
 rw [hrun,Oper.upon_enter];refine h.mono fun e w'' hh=>?_
 rcases hh with ⟨v,rfl,hk⟩|⟨c,rfl,hk⟩
 ·exact hk
 ·exact hk
def NameIs (l:List Tok6) (e:Int):Prop:=(nx l e).f0=1∧nameB (nx l e).f2.data.toList=true
theorem Y4 {α:Type} {e:Int} {l:List Tok6} (k:ByteArray→List Tok6→Out α) (h: ¬ NameIs l e):nameW e l k= .bad (nx l e).f1 7:=if_neg h
theorem QZ {α:Type} {e:Int} {l:List Tok6} (k:ByteArray→List Tok6→Out α) (h:NameIs l e):nameW e l k=k (nx l e).f2 l.tail:=if_pos h
theorem QT {w0 w:World} {g:Nat} {l:List Tok6} {e:Int} (h:Ps w0 w g l e) (hG:GL w0):
  Calls Tryd.prog 63 #[.pointer (some ⟨g,0,none⟩)] w fun E w'=>
   (NameIs l e∧E= .returned (.string (nx l e).f2)∧Ps w0 w' g l.tail e∧KeepBut w w' g none)∨(¬ NameIs l e∧FailsW w0 w g (nx l e).f1 7 E w'):=by
 by_cases hn:NameIs l e
 ·have hc:=JI (l:=l) (e:=e) (by rw [hn.1];decide);have h2:=h;rw [hc] at h2;refine (aaP h2 hG hn.1 hn.2).mono ?_
  rintro E w' ⟨rfl,h3,h4⟩
  exact .inl ⟨hn,rfl,h3,h4⟩
 ·have zB:(nx l e).f0≠1∨(nx l e).f0=1∧nameB (nx l e).f2.data.toList=false:=by
   by_cases h1:(nx l e).f0=1
   ·exact .inr ⟨h1,by simpa using fun h2=>hn ⟨h1,h2⟩⟩
   ·exact .inl h1
  refine (aeU h hG zB).mono ?_
  intro E w' hp;exact .inr ⟨hn,hp⟩
def DeclPost (w0 w:World) (g o base:Nat) (e:Int) (out:Out P6) (E:Ending) (w':World):Prop:=
 match out with
 | .ok p r=>E= .returned (.tuple #[])∧ ∃ j v v1 v2 v3,Pg (w0.setCell ⟨o,j,none⟩ v) w' g o base r e p v1 v2 v3
 | .bad a er=>FailsW w0 w g a er E w'
set_option maxRecDepth 100000 in
set_option maxHeartbeats 3200000 in
theorem ao4 {w0 w:World} {g o base:Nat} {l:List Tok6} {e:Int} {p:P6} {v1 v2 v3:Value} (bl:List Tok6→Out (List St6))
  (hbl: ∀ w r,Ps w0 w g r e→r<:+l.tail→Calls Tryd.prog 64 #[.pointer (some ⟨g,0,none⟩),.int .i64 0] w (BlockPost w0 w g e (bl r)))
  (h:Pg w0 w g o base l e p v1 v2 v3) (hkd: ∀ t∈l,t.f0≠0) (hG:GL w0) (hlen:p.vs.length≤1000000∧p.ls.length≤1000000∧p.fs.length≤1000000) (hbase:base≤w.heap.size):
  Calls Tryd.prog 33 #[.pointer (some ⟨g,0,none⟩),.pointer (some ⟨o,0,none⟩)] w (DeclPost w0 w g o base e (declW e bl l p)):=by
 have hu:=Tryd.underlying108;have wQ:=Tryd.underlying30;have YF:=Tryd.underlying59;have IQ:=Tryd.underlying46;obtain ⟨a1,c1,rfl⟩:=Kd.gI h.r1;obtain ⟨a2,c2,rfl⟩:=Kd.gI h.r2;obtain ⟨a3,c3,rfl⟩:=Kd.gI h.r3;have HBL:=aC.mk hbl;have HKD:=aC.mk hkd;have HG:=aC.mk hG;have HLEN:=aC.mk hlen;have wO:=aC.mk hbase;have HP:=aC.mk h;have glt:g<w.heap.size:=h.ps.lt;clear hbl hkd hG hlen hbase h;obtain ⟨⟨t0,t1,t2⟩,hnx⟩: ∃ t,nx l e=t:=⟨_,rfl⟩;have HNX:=aC.mk hnx;have HNC:aC (Calls Tryd.prog 61 #[.pointer (some ⟨g,0,none⟩)] w fun E w'=>E= .returned (.agg #[.int .i64 t0,.int .i64 t1,.string t2])∧Below w.heap.size w w'):=aC.mk (by
  have:=xL HP.out.ps;rwa [hnx] at this)
 clear hnx;go_enter Tryd.func33,Tryd.ntmps33
 go_wp2_with fail
 refine HNC.out.mono ?_
 rintro E w1 ⟨rfl,fM⟩
 have kV:=aC.mk ((HP.out.below fM).below (aI (Below.refl _ w1) (.cells #[.int .i64 t0,.int .i64 t1,.string t2] 108)));have cY:=aC.mk (aI fM (.cells #[.int .i64 t0,.int .i64 t1,.string t2] 108));have hbt:=gC w1 (.cells #[.int .i64 t0,.int .i64 t1,.string t2] 108);have p8:w.heap.size≤w1.heap.size:=fM.size;go_upto_region 1 with fail
 generalize w1.alloc (.cells #[.int .i64 t0,.int .i64 t1,.string t2] 108)=X at kV cY hbt ⊢;generalize w1.heap.size=b4 at hbt p8 ⊢;have HBT:=aC.mk hbt;have HNE:aC (b4≠g):=aC.mk (by omega);have E4:=aD hbt 2;clear fM hbt HNC p8;have notok:(t2=varT∨t2=lockT∨t2=funcT)→l=⟨t0,t1,t2⟩::l.tail∧t0≠0:=fun ht=>by
  have hc:l=⟨t0,t1,t2⟩::l.tail:=by
   have h1:=HNX.out;cases l with
   |nil=>
    have h2:(⟨#[]⟩:ByteArray)=t2:=congrArg (fun t=>t.f2) h1;have h3:(0:Nat)=t2.size:=congrArg ByteArray.size h2;rcases ht with h|h|h<;>rw [h] at h3<;>exact absurd h3 (by decide)
   |cons t q=>exact congrArg (· ::q) h1
  refine ⟨hc,HKD.out ⟨t0,t1,t2⟩ ?_⟩;rw [hc];exact List.mem_cons_self
 have HNT:=aC.mk notok;clear notok;by_cases NQ:t2=varT
 ·subst NQ;obtain ⟨hcons,zV⟩:=HNT.out (.inl rfl);have HSP:aC (declW e bl l p=nameW e l.tail fun n r=>.ok ⟨p.vs++ [⟨n,t1⟩],p.ls,p.fs⟩ r):=⟨by
   unfold declW
   rw [HNX.out];rfl⟩
  have hPc:=kV.out;rw [hcons] at hPc;have HPc:=aC.mk hPc.ps;have rE:=aC.mk zV;rw [show varT=(⟨#[118,97,114]⟩:ByteArray) from rfl] at E4 HPc ⊢;clear hcons hPc zV HNT HNX;go_wp2_with fail
  refine (vI HPc.out rE.out).mono ?_
  rintro E Y ⟨rfl,hPY,hkY⟩
  have HPg:=aC.mk (kV.out.step hPY hkY);have pF:=aC.mk (vH hkY HBT.out HNE.out);have HKY:=aC.mk ((KeepBut.fS cY.out g none).trans hkY (.inl rfl));have HBASE:aC (base≤Y.heap.size):=aC.mk (Nat.le_trans wO.out HKY.out.1);have f0:=aD HPg.out.blk 0;have f1:=aD pF.out 1;clear hPY hkY HPc rE kV cY HBT E4;go_upto_region 5 with fail
  -- REGION 5 (gen_decl.py)
  refine mK (n:=15) (S:=fun w'=>w'.cell? ⟨o,0,none⟩=some (.slice a1 p.vs.length c1)∧w'.cell? ⟨b4,1,none⟩=some (.int .i64 t1)) (ds:=[11,14]) #[false,false,false,false,false,false,false,false,false,false,false,false,false,false,false] (by kernel_rfl) rfl rfl ⟨f0,f1⟩ (fun hHeld=>?_);refine bE (i:=0) (N:=some 16) (v:=?_) (a':=?_) #[true,false,false,false,false,false,false,false,false,false,false,false,false,false,false] rfl rfl (by kernel_rfl) (fun _ _ _ h=>h) (Or.inl ⟨by rfl,?_⟩) ?_ ?_
  rotate_left;·intro w';go_simp;with_reducible rfl
  rotate_left;·simp only [Act.put,q1_,q2_,q3_,aG,aH];rfl
  refine bE (i:=1) (N:=some 17) (v:=?_) (a':=?_) #[true,true,false,false,false,false,false,false,false,false,false,false,false,false,false] rfl rfl (by kernel_rfl) (fun _ _ _ h=>h) (Or.inl ⟨by rfl,?_⟩) ?_ ?_
  rotate_left;·intro w';go_simp;with_reducible rfl
  rotate_left;·simp only [Act.put,q1_,q2_,q3_,aG,aH];rfl
  refine bE (i:=2) (N:=some 18) (v:=?_) (a':=?_) #[true,true,true,false,false,false,false,false,false,false,false,false,false,false,false] rfl rfl (by kernel_rfl) (fun _ _ _ h=>h) (Or.inl ⟨by rfl,?_⟩) ?_ ?_
  rotate_left;·intro w';go_simp;with_reducible rfl
  rotate_left;·simp only [Act.put,q1_,q2_,q3_,aG,aH];rfl
  refine bE (i:=3) (N:=some 19) (v:=?_) (a':=?_) #[true,true,true,true,false,false,false,false,false,false,false,false,false,false,false] rfl rfl (by kernel_rfl) (fun _ _ _ h=>h) (Or.inl ⟨by rfl,?_⟩) ?_ ?_
  rotate_left;·intro w';go_simp;with_reducible rfl
  rotate_left;·simp only [Act.put,q1_,q2_,q3_,aG,aH];rfl
  refine bE (i:=5) (N:=some 21) (v:=?_) (a':=?_) #[true,true,true,true,false,true,false,false,false,false,false,false,false,false,false] rfl rfl (by kernel_rfl) (fun _ _ _ h=>h) (Or.inl ⟨by rfl,?_⟩) ?_ ?_
  rotate_left;·intro w';go_simp;with_reducible rfl
  rotate_left;·simp only [Act.put,q1_,q2_,q3_,aG,aH];rfl
  refine bE (i:=7) (N:=some 23) (v:=?_) (a':=?_) #[true,true,true,true,false,true,false,true,false,false,false,false,false,false,false] rfl rfl (by kernel_rfl) (fun _ _ _ h=>h) (Or.inl ⟨by rfl,?_⟩) ?_ ?_
  rotate_left;·intro w';go_simp;with_reducible rfl
  rotate_left;·simp only [Act.put,q1_,q2_,q3_,aG,aH];rfl
  refine eC (i:=4) (N:=some 20) (v:=?_) (a':=?_) #[true,true,true,true,true,true,false,true,false,false,false,false,false,false,false] rfl rfl (by kernel_rfl) (fun _ _ _ h=>h) (Or.inl ⟨by rfl,?_⟩) hHeld ?_ ?_
  rotate_left
  ·rintro w' ⟨s0,s1⟩
   go_simp;with_reducible rfl
  rotate_left;·simp only [Act.put,q1_,q2_,q3_,aG,aH];rfl
  refine eC (i:=8) (N:=some 24) (v:=?_) (a':=?_) #[true,true,true,true,true,true,false,true,true,false,false,false,false,false,false] rfl rfl (by kernel_rfl) (fun _ _ _ h=>h) (Or.inl ⟨by rfl,?_⟩) hHeld ?_ ?_
  rotate_left
  ·rintro w' ⟨s0,s1⟩
   go_simp;with_reducible rfl
  rotate_left;·simp only [Act.put,q1_,q2_,q3_,aG,aH];rfl
  refine one_ (i:=6) (N:=some 22) #[true,true,true,true,true,true,true,true,true,false,false,false,false,false,false] rfl rfl (by kernel_rfl) (by decide) (fun K hK=>?_);refine SX Tryd.func63 (by kernel_rfl) rfl #[.pointer (some ⟨g,0,none⟩)] (by rfl) rfl rfl (by simp only [List.map_toArray,List.map_cons,List.map_nil];rfl) ?_
  refine (QT (HPg.out.ps.below (aJ (Below.refl _ _))) HG.out).mono ?_
  rintro E w5 hp
  rcases hp with ⟨hn,rfl,lW,jF⟩|⟨hn,rfl,oN,jF⟩
  rotate_left
  ·refine .inr ⟨_,rfl,?_⟩;show bodyPost Tryd.prog Tryd.f33 (DeclPost w0 w g o base e (declW e bl l p)) (.panic _) _ _
   refine ⟨rfl,?_⟩;show DeclPost w0 w g o base e _ _ _
   rw [HSP.out,Y4 _ hn];exact ⟨rfl,oN,HKY.out.trans jF (.inl rfl)⟩
  refine .inl ⟨_,rfl,?_⟩;have p5:KeepBut Y w5 g none:=jF;have iF:=aC.mk (HPg.out.step lW p5);have s9:=aC.mk (vH p5 pF.out HNE.out);have HNM:=aC.mk hn;have HSZ:=aC.mk p5.1;have tY:=aC.mk (Nat.le_trans HBASE.out HSZ.out);clear lW jF p5 hn;have tY:=aC.mk (Nat.le_trans HBASE.out HSZ.out);refine hK.out _ _ ⟨aD iF.out.blk 0,aD s9.out 1⟩ (fun hHeld=>?_);clear hK K;refine aZ (a':=?_) ?_ ?_
  rotate_left
  ·show Act.put _ (some 22) _=_
   simp only [Act.put,q1_,q2_,q3_,aG,aH];rfl
  refine bE (i:=9) (N:=some 25) (v:=?_) (a':=?_) #[true,true,true,true,true,true,true,true,true,true,false,false,false,false,false] rfl rfl (by kernel_rfl) (fun _ _ _ h=>h) (Or.inl ⟨by rfl,?_⟩) ?_ ?_
  rotate_left;·intro w';go_simp;with_reducible rfl
  rotate_left;·simp only [Act.put,q1_,q2_,q3_,aG,aH];rfl
  refine one_ (i:=10) (N:=some 26) #[true,true,true,true,true,true,true,true,true,true,true,false,false,false,false] rfl rfl (by kernel_rfl) (by decide) (fun K hK=>?_);refine dG (w1:=?_) (v:=?_) (by rfl) rfl ?_ ?_
  rotate_left 2
  ·go_simp;constructor
   ·rfl
   ·rfl
  refine hK.out _ _ ⟨aD (aQ iF.out.blk _) 0,aD (aQ s9.out _) 1⟩ (fun hHeld=>?_);clear hK K;refine aZ (a':=?_) ?_ ?_
  rotate_left
  ·show Act.put _ (some 26) _=_
   simp only [Act.put,q1_,q2_,q3_,aG,aH];rfl
  refine nZ (i:=11) (N:=some 27) #[true,true,true,true,true,true,true,true,true,true,true,true,false,false,false] rfl rfl (by kernel_rfl) (by decide) (fun K hK=>?_);refine Kd.PX k59 (w0:=w5) base (by rfl) (.tmp 20) (.tmp 26) 27 59 (.agg #[(.string ⟨#[]⟩),(.int .i64 0)]) 24 rfl Tryd.underlying27 info59 rfl (by decide) (by omega) (.slice a1 p.vs.length c1) p.vs (⟨(nx l.tail e).f2,t1⟩:De6) [.string (nx l.tail e).f2,.int .i64 t1] (Apt base (.slice a2 p.ls.length c2) (.slice a3 p.fs.length c3)) (fun _=>False) rfl (by rfl) ?aP ?aK ?aF iF.out.r1 (Below.refl _ _) ?aS ?aL ?_
  (case aP=>exact sY _ _ _ (⟨(nx l.tail e).f2,t1⟩:De6))
  (case aK=>exact (fun _ h=>h.elim))
  (case aF=>exact Apt.fresh iF.out.r2 iF.out.r3 tY.out)
  (case aS=>exact tY.out)
  (case aL=>have:=HLEN.out;omega)
  intro v6 w6 ho hb_ hg hat;obtain ⟨a6,c6,rfl⟩:=Kd.gI ho;have pS:=iY iF.out.blk hg (fun he=>by have:=((Kd.i1 iF.out.r1).1 o he.symm).1.1;have:=iF.out.FI;have:=iF.out.og;omega);have acU:=aC.mk pS;have HOUT:=aC.mk (iF.out.push1 ho hg hat);have s0:=aD pS 0;have s1:=aT pS 0;clear ho hb_ hg hat pS;refine hK.out _ _ ?_
  clear hK K;refine aZ (a':=?_) ?_ ?_
  rotate_left
  ·show Act.put _ (some 27) _=_
   simp only [Act.put,q1_,q2_,q3_,aG,aH];rfl
  refine bE (i:=12) (N:=some 28) (v:=?_) (a':=?_) #[true,true,true,true,true,true,true,true,true,true,true,true,true,false,false] rfl rfl (by kernel_rfl) (fun _ _ _ h=>h) (Or.inl ⟨by rfl,?_⟩) ?_ ?_
  rotate_left;·intro w';go_simp;with_reducible rfl
  rotate_left;·simp only [Act.put,q1_,q2_,q3_,aG,aH];rfl
  refine bE (i:=13) (N:=some 29) (v:=?_) (a':=?_) #[true,true,true,true,true,true,true,true,true,true,true,true,true,true,false] rfl rfl (by kernel_rfl) (fun _ _ _ h=>h) (Or.inl ⟨by rfl,?_⟩) ?_ ?_
  rotate_left;·intro w';go_simp;with_reducible rfl
  rotate_left;·simp only [Act.put,q1_,q2_,q3_,aG,aH];rfl
  refine nZ (i:=14) (N:=none) #[true,true,true,true,true,true,true,true,true,true,true,true,true,true,true] rfl rfl (by kernel_rfl) (by decide) (fun K hK=>?_);refine lV (w1:=?_) (by rfl) rfl ?_ ?_
  rotate_left;·go_simp;rfl
  refine hK.out _ _ ?_
  clear hK K;refine mP (by kernel_rfl) ?_
  -- END REGION
  clear s0 s1;go_wp2
  refine ⟨rfl,.tuple #[],by first|(simp [results,Tryd.results33,go_sem];done)|(simp [results,go_sem];done)|rfl,?_⟩;show DeclPost w0 w g o base e _ _ _
  rw [HSP.out,QZ _ HNM.out];have h_:=HOUT.out;simp only [List.length_append,List.length_cons,List.length_nil,Nat.zero_add] at h_;exact ⟨rfl,0,_,_,_,_,h_⟩
 by_cases MR:t2=lockT
 ·subst MR;obtain ⟨hcons,zV⟩:=HNT.out (.inr (.inl rfl));have HSP:aC (declW e bl l p=nameW e l.tail fun n r=>.ok ⟨p.vs,p.ls++ [⟨n,t1⟩],p.fs⟩ r):=⟨by
   unfold declW
   rw [HNX.out];rfl⟩
  have hPc:=kV.out;rw [hcons] at hPc;have HPc:=aC.mk hPc.ps;have rE:=aC.mk zV;rw [show lockT=(⟨#[108,111,99,107]⟩:ByteArray) from rfl] at E4 HPc ⊢;clear hcons hPc zV HNT HNX;go_wp2_with fail
  refine (vI HPc.out rE.out).mono ?_
  rintro E Y ⟨rfl,hPY,hkY⟩
  have HPg:=aC.mk (kV.out.step hPY hkY);have pF:=aC.mk (vH hkY HBT.out HNE.out);have HKY:=aC.mk ((KeepBut.fS cY.out g none).trans hkY (.inl rfl));have HBASE:aC (base≤Y.heap.size):=aC.mk (Nat.le_trans wO.out HKY.out.1);have f0:=aD HPg.out.blk 1;have f1:=aD pF.out 1;clear hPY hkY HPc rE kV cY HBT E4;go_upto_region 8 with fail
  -- REGION 8 (gen_decl.py)
  refine mK (n:=15) (S:=fun w'=>w'.cell? ⟨o,1,none⟩=some (.slice a2 p.ls.length c2)∧w'.cell? ⟨b4,1,none⟩=some (.int .i64 t1)) (ds:=[11,14]) #[false,false,false,false,false,false,false,false,false,false,false,false,false,false,false] (by kernel_rfl) rfl rfl ⟨f0,f1⟩ (fun hHeld=>?_);refine bE (i:=0) (N:=some 34) (v:=?_) (a':=?_) #[true,false,false,false,false,false,false,false,false,false,false,false,false,false,false] rfl rfl (by kernel_rfl) (fun _ _ _ h=>h) (Or.inl ⟨by rfl,?_⟩) ?_ ?_
  rotate_left;·intro w';go_simp;with_reducible rfl
  rotate_left;·simp only [Act.put,q1_,q2_,q3_,aG,aH];rfl
  refine bE (i:=1) (N:=some 35) (v:=?_) (a':=?_) #[true,true,false,false,false,false,false,false,false,false,false,false,false,false,false] rfl rfl (by kernel_rfl) (fun _ _ _ h=>h) (Or.inl ⟨by rfl,?_⟩) ?_ ?_
  rotate_left;·intro w';go_simp;with_reducible rfl
  rotate_left;·simp only [Act.put,q1_,q2_,q3_,aG,aH];rfl
  refine bE (i:=2) (N:=some 36) (v:=?_) (a':=?_) #[true,true,true,false,false,false,false,false,false,false,false,false,false,false,false] rfl rfl (by kernel_rfl) (fun _ _ _ h=>h) (Or.inl ⟨by rfl,?_⟩) ?_ ?_
  rotate_left;·intro w';go_simp;with_reducible rfl
  rotate_left;·simp only [Act.put,q1_,q2_,q3_,aG,aH];rfl
  refine bE (i:=3) (N:=some 37) (v:=?_) (a':=?_) #[true,true,true,true,false,false,false,false,false,false,false,false,false,false,false] rfl rfl (by kernel_rfl) (fun _ _ _ h=>h) (Or.inl ⟨by rfl,?_⟩) ?_ ?_
  rotate_left;·intro w';go_simp;with_reducible rfl
  rotate_left;·simp only [Act.put,q1_,q2_,q3_,aG,aH];rfl
  refine bE (i:=5) (N:=some 39) (v:=?_) (a':=?_) #[true,true,true,true,false,true,false,false,false,false,false,false,false,false,false] rfl rfl (by kernel_rfl) (fun _ _ _ h=>h) (Or.inl ⟨by rfl,?_⟩) ?_ ?_
  rotate_left;·intro w';go_simp;with_reducible rfl
  rotate_left;·simp only [Act.put,q1_,q2_,q3_,aG,aH];rfl
  refine bE (i:=7) (N:=some 41) (v:=?_) (a':=?_) #[true,true,true,true,false,true,false,true,false,false,false,false,false,false,false] rfl rfl (by kernel_rfl) (fun _ _ _ h=>h) (Or.inl ⟨by rfl,?_⟩) ?_ ?_
  rotate_left;·intro w';go_simp;with_reducible rfl
  rotate_left;·simp only [Act.put,q1_,q2_,q3_,aG,aH];rfl
  refine eC (i:=4) (N:=some 38) (v:=?_) (a':=?_) #[true,true,true,true,true,true,false,true,false,false,false,false,false,false,false] rfl rfl (by kernel_rfl) (fun _ _ _ h=>h) (Or.inl ⟨by rfl,?_⟩) hHeld ?_ ?_
  rotate_left
  ·rintro w' ⟨s0,s1⟩
   go_simp;with_reducible rfl
  rotate_left;·simp only [Act.put,q1_,q2_,q3_,aG,aH];rfl
  refine eC (i:=8) (N:=some 42) (v:=?_) (a':=?_) #[true,true,true,true,true,true,false,true,true,false,false,false,false,false,false] rfl rfl (by kernel_rfl) (fun _ _ _ h=>h) (Or.inl ⟨by rfl,?_⟩) hHeld ?_ ?_
  rotate_left
  ·rintro w' ⟨s0,s1⟩
   go_simp;with_reducible rfl
  rotate_left;·simp only [Act.put,q1_,q2_,q3_,aG,aH];rfl
  refine one_ (i:=6) (N:=some 40) #[true,true,true,true,true,true,true,true,true,false,false,false,false,false,false] rfl rfl (by kernel_rfl) (by decide) (fun K hK=>?_);refine SX Tryd.func63 (by kernel_rfl) rfl #[.pointer (some ⟨g,0,none⟩)] (by rfl) rfl rfl (by simp only [List.map_toArray,List.map_cons,List.map_nil];rfl) ?_
  refine (QT (HPg.out.ps.below (aJ (Below.refl _ _))) HG.out).mono ?_
  rintro E w5 hp
  rcases hp with ⟨hn,rfl,lW,jF⟩|⟨hn,rfl,oN,jF⟩
  rotate_left
  ·refine .inr ⟨_,rfl,?_⟩;show bodyPost Tryd.prog Tryd.f33 (DeclPost w0 w g o base e (declW e bl l p)) (.panic _) _ _
   refine ⟨rfl,?_⟩;show DeclPost w0 w g o base e _ _ _
   rw [HSP.out,Y4 _ hn];exact ⟨rfl,oN,HKY.out.trans jF (.inl rfl)⟩
  refine .inl ⟨_,rfl,?_⟩;have p5:KeepBut Y w5 g none:=jF;have iF:=aC.mk (HPg.out.step lW p5);have s9:=aC.mk (vH p5 pF.out HNE.out);have HNM:=aC.mk hn;have HSZ:=aC.mk p5.1;have tY:=aC.mk (Nat.le_trans HBASE.out HSZ.out);clear lW jF p5 hn;have tY:=aC.mk (Nat.le_trans HBASE.out HSZ.out);refine hK.out _ _ ⟨aD iF.out.blk 1,aD s9.out 1⟩ (fun hHeld=>?_);clear hK K;refine aZ (a':=?_) ?_ ?_
  rotate_left
  ·show Act.put _ (some 40) _=_
   simp only [Act.put,q1_,q2_,q3_,aG,aH];rfl
  refine bE (i:=9) (N:=some 43) (v:=?_) (a':=?_) #[true,true,true,true,true,true,true,true,true,true,false,false,false,false,false] rfl rfl (by kernel_rfl) (fun _ _ _ h=>h) (Or.inl ⟨by rfl,?_⟩) ?_ ?_
  rotate_left;·intro w';go_simp;with_reducible rfl
  rotate_left;·simp only [Act.put,q1_,q2_,q3_,aG,aH];rfl
  refine one_ (i:=10) (N:=some 44) #[true,true,true,true,true,true,true,true,true,true,true,false,false,false,false] rfl rfl (by kernel_rfl) (by decide) (fun K hK=>?_);refine dG (w1:=?_) (v:=?_) (by rfl) rfl ?_ ?_
  rotate_left 2
  ·go_simp;constructor
   ·rfl
   ·rfl
  refine hK.out _ _ ⟨aD (aQ iF.out.blk _) 1,aD (aQ s9.out _) 1⟩ (fun hHeld=>?_);clear hK K;refine aZ (a':=?_) ?_ ?_
  rotate_left
  ·show Act.put _ (some 44) _=_
   simp only [Act.put,q1_,q2_,q3_,aG,aH];rfl
  refine nZ (i:=11) (N:=some 45) #[true,true,true,true,true,true,true,true,true,true,true,true,false,false,false] rfl rfl (by kernel_rfl) (by decide) (fun K hK=>?_);refine Kd.PX k59 (w0:=w5) base (by rfl) (.tmp 38) (.tmp 44) 27 59 (.agg #[(.string ⟨#[]⟩),(.int .i64 0)]) 24 rfl Tryd.underlying27 info59 rfl (by decide) (by omega) (.slice a2 p.ls.length c2) p.ls (⟨(nx l.tail e).f2,t1⟩:De6) [.string (nx l.tail e).f2,.int .i64 t1] (Apt base (.slice a1 p.vs.length c1) (.slice a3 p.fs.length c3)) (fun _=>False) rfl (by rfl) ?aP ?aK ?aF iF.out.r2 (Below.refl _ _) ?aS ?aL ?_
  (case aP=>exact sY _ _ _ (⟨(nx l.tail e).f2,t1⟩:De6))
  (case aK=>exact (fun _ h=>h.elim))
  (case aF=>exact Apt.fresh iF.out.r1 iF.out.r3 tY.out)
  (case aS=>exact tY.out)
  (case aL=>have:=HLEN.out;omega)
  intro v6 w6 ho hb_ hg hat;obtain ⟨a6,c6,rfl⟩:=Kd.gI ho;have pS:=iY iF.out.blk hg (fun he=>by have:=((Kd.i1 iF.out.r2).1 o he.symm).1.1;have:=iF.out.FI;have:=iF.out.og;omega);have acU:=aC.mk pS;have HOUT:=aC.mk (iF.out.push2 ho hg hat);have s0:=aD pS 1;have s1:=aT pS 1;clear ho hb_ hg hat pS;refine hK.out _ _ ?_
  clear hK K;refine aZ (a':=?_) ?_ ?_
  rotate_left
  ·show Act.put _ (some 45) _=_
   simp only [Act.put,q1_,q2_,q3_,aG,aH];rfl
  refine bE (i:=12) (N:=some 46) (v:=?_) (a':=?_) #[true,true,true,true,true,true,true,true,true,true,true,true,true,false,false] rfl rfl (by kernel_rfl) (fun _ _ _ h=>h) (Or.inl ⟨by rfl,?_⟩) ?_ ?_
  rotate_left;·intro w';go_simp;with_reducible rfl
  rotate_left;·simp only [Act.put,q1_,q2_,q3_,aG,aH];rfl
  refine bE (i:=13) (N:=some 47) (v:=?_) (a':=?_) #[true,true,true,true,true,true,true,true,true,true,true,true,true,true,false] rfl rfl (by kernel_rfl) (fun _ _ _ h=>h) (Or.inl ⟨by rfl,?_⟩) ?_ ?_
  rotate_left;·intro w';go_simp;with_reducible rfl
  rotate_left;·simp only [Act.put,q1_,q2_,q3_,aG,aH];rfl
  refine nZ (i:=14) (N:=none) #[true,true,true,true,true,true,true,true,true,true,true,true,true,true,true] rfl rfl (by kernel_rfl) (by decide) (fun K hK=>?_);refine lV (w1:=?_) (by rfl) rfl ?_ ?_
  rotate_left;·go_simp;rfl
  refine hK.out _ _ ?_
  clear hK K;refine mP (by kernel_rfl) ?_
  -- END REGION
  clear s0 s1;go_wp2
  refine ⟨rfl,.tuple #[],by first|(simp [results,Tryd.results33,go_sem];done)|(simp [results,go_sem];done)|rfl,?_⟩;show DeclPost w0 w g o base e _ _ _
  rw [HSP.out,QZ _ HNM.out];have h_:=HOUT.out;simp only [List.length_append,List.length_cons,List.length_nil,Nat.zero_add] at h_;exact ⟨rfl,1,_,_,_,_,h_⟩
 by_cases MO:t2=funcT
 ·subst MO;obtain ⟨hcons,zV⟩:=HNT.out (.inr (.inr rfl));have HSP:aC (declW e bl l p=nameW e l.tail fun n r=>match bl r with| .bad a b=>.bad a b| .ok b r2=>.ok ⟨p.vs,p.ls,p.fs++ [⟨n,t1,b⟩]⟩ r2):=⟨by
   unfold declW
   rw [HNX.out];rfl⟩
  have hPc:=kV.out;rw [hcons] at hPc;have HPc:=aC.mk hPc.ps;have rE:=aC.mk zV;rw [show funcT=(⟨#[102,117,110,99]⟩:ByteArray) from rfl] at E4 HPc ⊢;clear hcons hPc zV HNT HNX;go_wp2_with fail
  refine (vI HPc.out rE.out).mono ?_
  rintro E Y ⟨rfl,hPY,hkY⟩
  have HPg:=aC.mk (kV.out.step hPY hkY);have pF:=aC.mk (vH hkY HBT.out HNE.out);have HKY:=aC.mk ((KeepBut.fS cY.out g none).trans hkY (.inl rfl));have HBASE:aC (base≤Y.heap.size):=aC.mk (Nat.le_trans wO.out HKY.out.1);have f0:=aD HPg.out.blk 2;have f1:=aD pF.out 1;clear hPY hkY HPc rE kV cY HBT E4;go_wp2_with fail
  refine (QT HPg.out.ps HG.out).mono ?_
  rintro E Y2 hp
  rcases hp with ⟨hn,rfl,akO,jQ⟩|⟨hn,rfl,bR,jQ⟩
  rotate_left
  ·go_wp2_with fail
   refine ⟨rfl,?_⟩;show DeclPost w0 w g o base e _ _ _
   rw [HSP.out,Y4 _ hn];exact ⟨rfl,bR,HKY.out.trans jQ (.inl rfl)⟩
  have kW:=aC.mk (HSP.out.trans (QZ _ hn));have acT:=aC.mk (HPg.out.step akO jQ);have aaZ:=aC.mk (vH jQ pF.out HNE.out);have agR:=aC.mk (HKY.out.trans jQ (.inl rfl));have acI:aC (base≤Y2.heap.size):=aC.mk (Nat.le_trans HBASE.out jQ.1);clear HSP hn HPg pF HKY HBASE f0 f1 akO jQ;generalize (nx l.tail e).f2=nm at kW ⊢;have HSP:=kW;have HPg:=acT;have pF:=aaZ;have HKY:=agR;have HBASE:=acI;clear kW acT aaZ agR acI;generalize Y2=Y at HPg pF HKY HBASE ⊢;have f0:=aD HPg.out.blk 2;have f1:=aD pF.out 1;have HSUF:aC (l.tail.tail<:+l.tail):=aC.mk (tE _);have HFR:aC (∀ k_,Y.heap.size≤k_→Apt base (.slice a1 p.vs.length c1) (.slice a2 p.ls.length c2) k_∧some k_≠(Value.slice a3 p.fs.length c3).ownBlock):=aC.mk fun k_ hk=>⟨Apt.fresh HPg.out.r1 HPg.out.r2 HBASE.out k_ hk,fun he=>by have:=((Kd.i1 HPg.out.r3).1 k_ he.symm).2.2.1;omega⟩
  go_upto_region 12 with fail
  -- REGION 12 (gen_decl.py)
  refine mK (n:=16) (S:=fun w'=>w'.cell? ⟨o,2,none⟩=some (.slice a3 p.fs.length c3)∧w'.cell? ⟨b4,1,none⟩=some (.int .i64 t1)) (ds:=[12,15]) #[false,false,false,false,false,false,false,false,false,false,false,false,false,false,false,false] (by kernel_rfl) rfl rfl ⟨f0,f1⟩ (fun hHeld=>?_);refine bE (i:=0) (N:=some 54) (v:=?_) (a':=?_) #[true,false,false,false,false,false,false,false,false,false,false,false,false,false,false,false] rfl rfl (by kernel_rfl) (fun _ _ _ h=>h) (Or.inl ⟨by rfl,?_⟩) ?_ ?_
  rotate_left;·intro w';go_simp;with_reducible rfl
  rotate_left;·simp only [Act.put,q1_,q2_,q3_,aG,aH];rfl
  refine bE (i:=1) (N:=some 55) (v:=?_) (a':=?_) #[true,true,false,false,false,false,false,false,false,false,false,false,false,false,false,false] rfl rfl (by kernel_rfl) (fun _ _ _ h=>h) (Or.inl ⟨by rfl,?_⟩) ?_ ?_
  rotate_left;·intro w';go_simp;with_reducible rfl
  rotate_left;·simp only [Act.put,q1_,q2_,q3_,aG,aH];rfl
  refine bE (i:=2) (N:=some 56) (v:=?_) (a':=?_) #[true,true,true,false,false,false,false,false,false,false,false,false,false,false,false,false] rfl rfl (by kernel_rfl) (fun _ _ _ h=>h) (Or.inl ⟨by rfl,?_⟩) ?_ ?_
  rotate_left;·intro w';go_simp;with_reducible rfl
  rotate_left;·simp only [Act.put,q1_,q2_,q3_,aG,aH];rfl
  refine bE (i:=3) (N:=some 57) (v:=?_) (a':=?_) #[true,true,true,true,false,false,false,false,false,false,false,false,false,false,false,false] rfl rfl (by kernel_rfl) (fun _ _ _ h=>h) (Or.inl ⟨by rfl,?_⟩) ?_ ?_
  rotate_left;·intro w';go_simp;with_reducible rfl
  rotate_left;·simp only [Act.put,q1_,q2_,q3_,aG,aH];rfl
  refine bE (i:=5) (N:=some 59) (v:=?_) (a':=?_) #[true,true,true,true,false,true,false,false,false,false,false,false,false,false,false,false] rfl rfl (by kernel_rfl) (fun _ _ _ h=>h) (Or.inl ⟨by rfl,?_⟩) ?_ ?_
  rotate_left;·intro w';go_simp;with_reducible rfl
  rotate_left;·simp only [Act.put,q1_,q2_,q3_,aG,aH];rfl
  refine bE (i:=6) (N:=some 60) (v:=?_) (a':=?_) #[true,true,true,true,false,true,true,false,false,false,false,false,false,false,false,false] rfl rfl (by kernel_rfl) (fun _ _ _ h=>h) (Or.inl ⟨by rfl,?_⟩) ?_ ?_
  rotate_left;·intro w';go_simp;with_reducible rfl
  rotate_left;·simp only [Act.put,q1_,q2_,q3_,aG,aH];rfl
  refine bE (i:=8) (N:=some 62) (v:=?_) (a':=?_) #[true,true,true,true,false,true,true,false,true,false,false,false,false,false,false,false] rfl rfl (by kernel_rfl) (fun _ _ _ h=>h) (Or.inl ⟨by rfl,?_⟩) ?_ ?_
  rotate_left;·intro w';go_simp;with_reducible rfl
  rotate_left;·simp only [Act.put,q1_,q2_,q3_,aG,aH];rfl
  refine eC (i:=4) (N:=some 58) (v:=?_) (a':=?_) #[true,true,true,true,true,true,true,false,true,false,false,false,false,false,false,false] rfl rfl (by kernel_rfl) (fun _ _ _ h=>h) (Or.inl ⟨by rfl,?_⟩) hHeld ?_ ?_
  rotate_left
  ·rintro w' ⟨s0,s1⟩
   go_simp;with_reducible rfl
  rotate_left;·simp only [Act.put,q1_,q2_,q3_,aG,aH];rfl
  refine eC (i:=7) (N:=some 61) (v:=?_) (a':=?_) #[true,true,true,true,true,true,true,true,true,false,false,false,false,false,false,false] rfl rfl (by kernel_rfl) (fun _ _ _ h=>h) (Or.inl ⟨by rfl,?_⟩) hHeld ?_ ?_
  rotate_left
  ·rintro w' ⟨s0,s1⟩
   go_simp;with_reducible rfl
  rotate_left;·simp only [Act.put,q1_,q2_,q3_,aG,aH];rfl
  refine one_ (i:=9) (N:=some 63) #[true,true,true,true,true,true,true,true,true,true,false,false,false,false,false,false] rfl rfl (by kernel_rfl) (by decide) (fun K hK=>?_);refine SX Tryd.func64 (by kernel_rfl) rfl #[.pointer (some ⟨g,0,none⟩),.int .i64 0] (by rfl) rfl rfl (by simp only [List.map_toArray,List.map_cons,List.map_nil];rfl) ?_
  refine (HBL.out _ _ (HPg.out.ps.below (aJ (Below.refl _ _))) HSUF.out).mono ?_
  rintro E w5 hp
  obtain ⟨ob,hob⟩: ∃ o_,bl l.tail.tail=o_:=⟨_,rfl⟩;rw [hob] at hp;have HOB:=aC.mk hob;clear hob;rcases ob with ⟨bd,r5⟩|⟨xa,xb⟩
  rotate_left
  ·obtain ⟨rfl,oN,jF⟩:=hp;refine .inr ⟨_,rfl,?_⟩;show bodyPost Tryd.prog Tryd.f33 (DeclPost w0 w g o base e (declW e bl l p)) (.panic _) _ _
   refine ⟨rfl,?_⟩;show DeclPost w0 w g o base e _ _ _
   rw [HSP.out,HOB.out];exact ⟨rfl,oN,HKY.out.trans jF (.inl rfl)⟩
  obtain ⟨vb,rfl,hRb,lW,jF⟩:=hp;obtain ⟨ab,cb,rfl⟩:=Kd.gI hRb;refine .inl ⟨_,rfl,?_⟩;have p5:KeepBut Y w5 g none:=jF;have iF:=aC.mk (HPg.out.step lW p5);have hRb':Kd.R k86 86 w5 Y.heap.size (fun k_=>Y.heap.size≤k_) (.slice ab bd.length cb) bd:=hRb;have HRB:=aC.mk hRb';have s9:=aC.mk (vH p5 pF.out HNE.out);have HSZ:=aC.mk p5.1;have tY:=aC.mk (Nat.le_trans HBASE.out HSZ.out);clear lW jF p5 hRb hRb';have tY:=aC.mk (Nat.le_trans HBASE.out HSZ.out);refine hK.out _ _ ⟨aD iF.out.blk 2,aD s9.out 1⟩ (fun hHeld=>?_);clear hK K;refine aZ (a':=?_) ?_ ?_
  rotate_left
  ·show Act.put _ (some 63) _=_
   simp only [Act.put,q1_,q2_,q3_,aG,aH];rfl
  refine bE (i:=10) (N:=some 64) (v:=?_) (a':=?_) #[true,true,true,true,true,true,true,true,true,true,true,false,false,false,false,false] rfl rfl (by kernel_rfl) (fun _ _ _ h=>h) (Or.inl ⟨by rfl,?_⟩) ?_ ?_
  rotate_left;·intro w';go_simp;with_reducible rfl
  rotate_left;·simp only [Act.put,q1_,q2_,q3_,aG,aH];rfl
  refine one_ (i:=11) (N:=some 65) #[true,true,true,true,true,true,true,true,true,true,true,true,false,false,false,false] rfl rfl (by kernel_rfl) (by decide) (fun K hK=>?_);refine dG (w1:=?_) (v:=?_) (by rfl) rfl ?_ ?_
  rotate_left 2
  ·go_simp;constructor
   ·rfl
   ·rfl
  refine hK.out _ _ ⟨aD (aQ iF.out.blk _) 2,aD (aQ s9.out _) 1⟩ (fun hHeld=>?_);clear hK K;refine aZ (a':=?_) ?_ ?_
  rotate_left
  ·show Act.put _ (some 65) _=_
   simp only [Act.put,q1_,q2_,q3_,aG,aH];rfl
  refine nZ (i:=12) (N:=some 66) #[true,true,true,true,true,true,true,true,true,true,true,true,true,false,false,false] rfl rfl (by kernel_rfl) (by decide) (fun K hK=>?_);refine Kd.PX k46 (w0:=w5) base (by rfl) (.tmp 58) (.tmp 65) 28 46 (.agg #[(.string ⟨#[]⟩),(.int .i64 0),(.slice none 0 0)]) 48 rfl Tryd.underlying28 info46 rfl (by decide) (by omega) (.slice a3 p.fs.length c3) p.fs (⟨nm,t1,bd⟩:Fn6) [.string nm,.int .i64 t1,.slice ab bd.length cb] (Apt base (.slice a1 p.vs.length c1) (.slice a2 p.ls.length c2)) (fun k_=>Y.heap.size≤k_) rfl (by rfl) ?aP ?aK ?aF iF.out.r3 (Below.refl _ _) ?aS ?aL ?_
  (case aP=>exact asJ _ _ _ (⟨nm,t1,bd⟩:Fn6) (Kd.iW HRB.out HBASE.out))
  (case aK=>exact (fun k_ hk=>HFR.out k_ hk))
  (case aF=>exact Apt.fresh iF.out.r1 iF.out.r2 tY.out)
  (case aS=>exact tY.out)
  (case aL=>have:=HLEN.out;omega)
  intro v6 w6 ho hb_ hg hat;obtain ⟨a6,c6,rfl⟩:=Kd.gI ho;have pS:=iY iF.out.blk hg (fun he=>by have:=((Kd.i1 iF.out.r3).1 o he.symm).1.1;have:=iF.out.FI;have:=iF.out.og;omega);have acU:=aC.mk pS;have HOUT:=aC.mk (iF.out.push3 ho hg hat);have s0:=aD pS 2;have s1:=aT pS 2;clear ho hb_ hg hat pS;refine hK.out _ _ ?_
  clear hK K;refine aZ (a':=?_) ?_ ?_
  rotate_left
  ·show Act.put _ (some 66) _=_
   simp only [Act.put,q1_,q2_,q3_,aG,aH];rfl
  refine bE (i:=13) (N:=some 67) (v:=?_) (a':=?_) #[true,true,true,true,true,true,true,true,true,true,true,true,true,true,false,false] rfl rfl (by kernel_rfl) (fun _ _ _ h=>h) (Or.inl ⟨by rfl,?_⟩) ?_ ?_
  rotate_left;·intro w';go_simp;with_reducible rfl
  rotate_left;·simp only [Act.put,q1_,q2_,q3_,aG,aH];rfl
  refine bE (i:=14) (N:=some 68) (v:=?_) (a':=?_) #[true,true,true,true,true,true,true,true,true,true,true,true,true,true,true,false] rfl rfl (by kernel_rfl) (fun _ _ _ h=>h) (Or.inl ⟨by rfl,?_⟩) ?_ ?_
  rotate_left;·intro w';go_simp;with_reducible rfl
  rotate_left;·simp only [Act.put,q1_,q2_,q3_,aG,aH];rfl
  refine nZ (i:=15) (N:=none) #[true,true,true,true,true,true,true,true,true,true,true,true,true,true,true,true] rfl rfl (by kernel_rfl) (by decide) (fun K hK=>?_);refine lV (w1:=?_) (by rfl) rfl ?_ ?_
  rotate_left;·go_simp;rfl
  refine hK.out _ _ ?_
  clear hK K;refine mP (by kernel_rfl) ?_
  -- END REGION
  clear s0 s1;go_wp2
  refine ⟨rfl,.tuple #[],by first|(simp [results,Tryd.results33,go_sem];done)|(simp [results,go_sem];done)|rfl,?_⟩;show DeclPost w0 w g o base e _ _ _
  rw [HSP.out,HOB.out];have h_:=HOUT.out;simp only [List.length_append,List.length_cons,List.length_nil,Nat.zero_add] at h_;exact ⟨rfl,2,_,_,_,_,h_⟩
 have HSP:aC (declW e bl l p= .bad t1 7):=⟨by
  unfold declW
  rw [HNX.out,if_neg NQ,if_neg MR,if_neg MO]⟩
 have ne_: ∀ (b:List UInt8),t2≠⟨b.toArray⟩→ ¬ t2.toList=b:=fun b h hq=>h (by
  rw [ByteArray.toList_eq] at hq;cases t2
  simp only [ByteArray.mk.injEq];exact Array.ext' (by simpa using hq))
 have n5: ¬ t2.toList= [118,97,114]:=ne_ _ NQ;have n8: ¬ t2.toList= [108,111,99,107]:=ne_ _ MR;have n12: ¬ t2.toList= [102,117,110,99]:=ne_ _ MO;have m5:(t2.toList== [118,97,114])=false:=beq_eq_false_iff_ne.mpr n5;have m8:(t2.toList== [108,111,99,107])=false:=beq_eq_false_iff_ne.mpr n8;have m12:(t2.toList== [102,117,110,99])=false:=beq_eq_false_iff_ne.mpr n12;clear ne_ NQ MR MO HNT;go_wp2_with fail
 refine (kV.out.ps.D6 (KeepBut.fS cY.out g none) 7).mono ?_
 rintro E w2 ⟨rfl,bR,jQ⟩
 rw [HNX.out];go_wp2_with fail
 refine ⟨rfl,?_⟩;show DeclPost w0 w g o base e _ _ _
 rw [HSP.out];exact ⟨rfl,bR,jQ⟩
set_option maxRecDepth 20000 in
set_option maxHeartbeats 800000 in
theorem agF {w:World} {okA:Nat→Prop} {A:Option Addr} {c:Nat} {xs:List S59} (hF:Kd.F k59 w okA A xs.length xs) (hl:xs.length≤1000000):
  Calls Tryd.prog 66 #[.slice A xs.length c] w fun E w'=>∃ v',E= .returned v'∧Kd.N k59 59 w' w.heap.size (fun k=>okA k∨w.heap.size≤k) v' xs∧Below w.heap.size w w':=by
 have HF:=aC.mk hF;have HL:=aC.mk hl;clear hl;cases A with
 |none=>
  have h0:xs= []:=by
   cases xs with
   |nil=>rfl
   |cons a r=>
    obtain ⟨ad,h,_⟩:=(Kd.EH hF).2.2 (by simp);cases h
  subst h0;clear hF;have he: ∀ W,(binOp BinOp.eql 27 (.slice none 0 c) (.slice none 0 0)).run Tryd.prog W= .ok (.bool true) W:=fun W=>by
   have h_:=Lib.run_eql_slice_nil (P:=Tryd.prog) W 27 _ none 0 c 0 0 Tryd.underlying27;exact h_
  go_enter Tryd.func66,Tryd.ntmps66
  go_wp2_with fail
  go_ret
  exact ⟨_,rfl,Kd.L9 _ _ _ _ _,Below.refl _ _⟩
 |some ad=>
  clear hF;have he: ∀ W,(binOp BinOp.eql 27 (.slice (some ad) xs.length c) (.slice none 0 0)).run Tryd.prog W= .ok (.bool false) W:=fun W=>by
   have h_:=Lib.run_eql_slice_nil (P:=Tryd.prog) W 27 _ (some ad) xs.length c 0 0 Tryd.underlying27;exact h_
  go_enter Tryd.func66,Tryd.ntmps66
  go_wp2_with (first
   |((with_reducible refine iJ (N:=5) rfl ?_);refine Kd.GH k59 (w0:=w) w.heap.size 59 ?hg (N':=5) ?hd (xs:=([]:List S59)) (inner:=[]) (ok:=fun k=>okA k∨w.heap.size≤k) (okp:=fun _=>False) ?hr ?hp (fun _ hk=>hk.elim) (.inr (Nat.le_refl _)) (Below.refl _ _) (Nat.le_refl _) (by simp) ?_;(case hd=>rfl);(case hg=>rfl);(case hr=>first|(go_simp;done)|(go_simp;rfl));(case hp=>exact Reps.none _ _);intro v5 w1 ho_ hb_ hg_ hn_;have yW:=aC.mk ho_;have cY:=aC.mk hb_;have l8:=aC.mk hn_;clear ho_ hb_ hg_ hn_)
   |((with_reducible refine lB (b:=.append) (xs:=#[.tmp 5,.tmp 6]) rfl ?_);at_builtin;refine Kd.ZG k59 (w0:=w) w.heap.size rfl (.tmp 5) (.tmp 6) 27 59 (.agg #[(.string ⟨#[]⟩),(.int .i64 0)]) 24 rfl Tryd.underlying27 info59 rfl (by decide) (by omega) v5 [] xs (some ad) xs.length c (fun k=>okA k∨w.heap.size≤k) (fun k=>okA k∧k<w.heap.size) rfl rfl yW.out (Kd.kR (Kd.uS HF.out) cY.out) (fun k hk=>⟨.inl hk.1,fun he=>by obtain ⟨b,h1,h2⟩:=l8.out;rw [h1] at he;injection he with he;have:=hk.2;omega⟩) (fun k hk=>.inr (Nat.le_trans cY.out.size hk)) cY.out cY.out.size (by have:=HL.out;simp only [List.length_nil];omega) ?_;intro v7 w2 ho_ hb_ hg_ hn_;rw [List.nil_append] at ho_;have qQ:=aC.mk ho_;have cR:=aC.mk hb_;clear ho_ hb_ hg_ hn_ yW cY l8))
  go_ret
  exact ⟨_,rfl,qQ.out,cR.out⟩
set_option maxRecDepth 20000 in
set_option maxHeartbeats 800000 in
theorem axZ {w:World} {okA:Nat→Prop} {A:Option Addr} {c:Nat} {xs:List S46} (hF:Kd.F k46 w okA A xs.length xs) (hl:xs.length≤1000000):
  Calls Tryd.prog 67 #[.slice A xs.length c] w fun E w'=>∃ v',E= .returned v'∧Kd.N k46 46 w' w.heap.size (fun k=>okA k∨w.heap.size≤k) v' xs∧Below w.heap.size w w':=by
 have HF:=aC.mk hF;have HL:=aC.mk hl;clear hl;cases A with
 |none=>
  have h0:xs= []:=by
   cases xs with
   |nil=>rfl
   |cons a r=>
    obtain ⟨ad,h,_⟩:=(Kd.EH hF).2.2 (by simp);cases h
  subst h0;clear hF;have he: ∀ W,(binOp BinOp.eql 28 (.slice none 0 c) (.slice none 0 0)).run Tryd.prog W= .ok (.bool true) W:=fun W=>by
   have h_:=Lib.run_eql_slice_nil (P:=Tryd.prog) W 28 _ none 0 c 0 0 Tryd.underlying28;exact h_
  go_enter Tryd.func67,Tryd.ntmps67
  go_wp2_with fail
  go_ret
  exact ⟨_,rfl,Kd.L9 _ _ _ _ _,Below.refl _ _⟩
 |some ad=>
  clear hF;have he: ∀ W,(binOp BinOp.eql 28 (.slice (some ad) xs.length c) (.slice none 0 0)).run Tryd.prog W= .ok (.bool false) W:=fun W=>by
   have h_:=Lib.run_eql_slice_nil (P:=Tryd.prog) W 28 _ (some ad) xs.length c 0 0 Tryd.underlying28;exact h_
  go_enter Tryd.func67,Tryd.ntmps67
  go_wp2_with (first
   |((with_reducible refine iJ (N:=5) rfl ?_);refine Kd.GH k46 (w0:=w) w.heap.size 46 ?hg (N':=5) ?hd (xs:=([]:List S46)) (inner:=[]) (ok:=fun k=>okA k∨w.heap.size≤k) (okp:=fun _=>False) ?hr ?hp (fun _ hk=>hk.elim) (.inr (Nat.le_refl _)) (Below.refl _ _) (Nat.le_refl _) (by simp) ?_;(case hd=>rfl);(case hg=>rfl);(case hr=>first|(go_simp;done)|(go_simp;rfl));(case hp=>exact Reps.none _ _);intro v5 w1 ho_ hb_ hg_ hn_;have yW:=aC.mk ho_;have cY:=aC.mk hb_;have l8:=aC.mk hn_;clear ho_ hb_ hg_ hn_)
   |((with_reducible refine lB (b:=.append) (xs:=#[.tmp 5,.tmp 6]) rfl ?_);at_builtin;refine Kd.ZG k46 (w0:=w) w.heap.size rfl (.tmp 5) (.tmp 6) 28 46 (.agg #[(.string ⟨#[]⟩),(.int .i64 0),(.slice none 0 0)]) 48 rfl Tryd.underlying28 info46 rfl (by decide) (by omega) v5 [] xs (some ad) xs.length c (fun k=>okA k∨w.heap.size≤k) (fun k=>okA k∧k<w.heap.size) rfl rfl yW.out (Kd.kR (Kd.uS HF.out) cY.out) (fun k hk=>⟨.inl hk.1,fun he=>by obtain ⟨b,h1,h2⟩:=l8.out;rw [h1] at he;injection he with he;have:=hk.2;omega⟩) (fun k hk=>.inr (Nat.le_trans cY.out.size hk)) cY.out cY.out.size (by have:=HL.out;simp only [List.length_nil];omega) ?_;intro v7 w2 ho_ hb_ hg_ hn_;rw [List.nil_append] at ho_;have qQ:=aC.mk ho_;have cR:=aC.mk hb_;clear ho_ hb_ hg_ hn_ yW cY l8))
  go_ret
  exact ⟨_,rfl,qQ.out,cR.out⟩
set_option maxRecDepth 20000 in
set_option maxHeartbeats 800000 in
theorem apU {w:World} {okA:Nat→Prop} {A:Option Addr} {c:Nat} {xs:List S86} (hF:Kd.F k86 w okA A xs.length xs) (hl:xs.length≤1000000):
  Calls Tryd.prog 83 #[.slice A xs.length c] w fun E w'=>∃ v',E= .returned v'∧Kd.N k86 86 w' w.heap.size (fun k=>okA k∨w.heap.size≤k) v' xs∧Below w.heap.size w w':=by
 have HF:=aC.mk hF;have HL:=aC.mk hl;clear hl;cases A with
 |none=>
  have h0:xs= []:=by
   cases xs with
   |nil=>rfl
   |cons a r=>
    obtain ⟨ad,h,_⟩:=(Kd.EH hF).2.2 (by simp);cases h
  subst h0;clear hF;have he: ∀ W,(binOp BinOp.eql 44 (.slice none 0 c) (.slice none 0 0)).run Tryd.prog W= .ok (.bool true) W:=fun W=>by
   have h_:=Lib.run_eql_slice_nil (P:=Tryd.prog) W 44 _ none 0 c 0 0 Tryd.underlying44;exact h_
  go_enter Tryd.func83,Tryd.ntmps83
  go_wp2_with fail
  go_ret
  exact ⟨_,rfl,Kd.L9 _ _ _ _ _,Below.refl _ _⟩
 |some ad=>
  clear hF;have he: ∀ W,(binOp BinOp.eql 44 (.slice (some ad) xs.length c) (.slice none 0 0)).run Tryd.prog W= .ok (.bool false) W:=fun W=>by
   have h_:=Lib.run_eql_slice_nil (P:=Tryd.prog) W 44 _ (some ad) xs.length c 0 0 Tryd.underlying44;exact h_
  go_enter Tryd.func83,Tryd.ntmps83
  go_wp2_with (first
   |((with_reducible refine iJ (N:=5) rfl ?_);refine Kd.GH k86 (w0:=w) w.heap.size 86 ?hg (N':=5) ?hd (xs:=([]:List S86)) (inner:=[]) (ok:=fun k=>okA k∨w.heap.size≤k) (okp:=fun _=>False) ?hr ?hp (fun _ hk=>hk.elim) (.inr (Nat.le_refl _)) (Below.refl _ _) (Nat.le_refl _) (by simp) ?_;(case hd=>rfl);(case hg=>rfl);(case hr=>first|(go_simp;done)|(go_simp;rfl));(case hp=>exact Reps.none _ _);intro v5 w1 ho_ hb_ hg_ hn_;have yW:=aC.mk ho_;have cY:=aC.mk hb_;have l8:=aC.mk hn_;clear ho_ hb_ hg_ hn_)
   |((with_reducible refine lB (b:=.append) (xs:=#[.tmp 5,.tmp 6]) rfl ?_);at_builtin;refine Kd.ZG k86 (w0:=w) w.heap.size rfl (.tmp 5) (.tmp 6) 44 86 (.agg #[(.int .i64 0),(.int .i64 0),(.string ⟨#[]⟩),(.slice none 0 0),(.slice none 0 0)]) 80 rfl Tryd.underlying44 info86 rfl (by decide) (by omega) v5 [] xs (some ad) xs.length c (fun k=>okA k∨w.heap.size≤k) (fun k=>okA k∧k<w.heap.size) rfl rfl yW.out (Kd.kR (Kd.uS HF.out) cY.out) (fun k hk=>⟨.inl hk.1,fun he=>by obtain ⟨b,h1,h2⟩:=l8.out;rw [h1] at he;injection he with he;have:=hk.2;omega⟩) (fun k hk=>.inr (Nat.le_trans cY.out.size hk)) cY.out cY.out.size (by have:=HL.out;simp only [List.length_nil];omega) ?_;intro v7 w2 ho_ hb_ hg_ hn_;rw [List.nil_append] at ho_;have qQ:=aC.mk ho_;have cR:=aC.mk hb_;clear ho_ hb_ hg_ hn_ yW cY l8))
  go_ret
  exact ⟨_,rfl,qQ.out,cR.out⟩
set_option maxRecDepth 20000 in
theorem adC {w:World} {A:Option Addr} {n c:Nat} (hc:n≤c):Calls Tryd.prog 84 #[.slice A n c] w fun E w'=>E= .returned (.slice A n n)∧w=w':=by
 have h1:=eq_true hc;go_enter Tryd.func84,Tryd.ntmps84
 go_wp2_with fail
 go_ret
 exact ⟨rfl,rfl⟩
inductive Bnd:List St6→Prop
 |mk {xs:List St6} :xs.length≤1000000→(∀ x∈xs,Bnd x.f3)→(∀ x∈xs,Bnd x.f4)→Bnd xs
theorem ayM (xs:List St6) (i:Nat) (h:i<xs.length):xs.getD i z86∈xs:=by
 rw [List.getD_eq_getElem?_getD,List.getElem?_eq_getElem h];exact List.getElem_mem h
theorem apB (xs:List St6) (i:Nat) (h:i<xs.length):xs.set i (xs.getD i z86)=xs:=by
 rw [List.getD_eq_getElem?_getD,List.getElem?_eq_getElem h];exact List.set_getElem_self h
set_option maxRecDepth 100000 in
set_option maxHeartbeats 1600000 in
theorem ak3 {xs:List St6} (hb:Bnd xs): ∀ (w:World) (okA:Nat→Prop) (A:Option Addr) (c:Nat),Kd.F k86 w okA A xs.length xs→xs.length≤c→
  Calls Tryd.prog 68 #[.slice A xs.length c] w fun E w'=>∃ A' c',E= .returned (.slice A' xs.length c')∧xs.length≤c'∧Kd.F k86 w' (fun k=>okA k∨w.heap.size≤k) A' xs.length xs∧Below w.heap.size w w':=by
 induction hb with
 | @mk xs hl h3 h4 qC qP=>
 intro w okA A c hF hc;have HF:=aC.mk hF;have HL:=aC.mk hl;have HC:=aC.mk hc;have aqD:=aC.mk qC;have awE:=aC.mk qP;clear hF hl hc qC qP h3 h4;go_enter Tryd.func68,Tryd.ntmps68
 go_wp2_with fail
 refine (apU HF.out HL.out).mono ?_
 rintro E w1 ⟨v,rfl,hN,fM⟩
 have cY:=aC.mk fM;have HN:=aC.mk hN;clear fM hN;by_cases hx:0<xs.length
 ·obtain ⟨g,cap,rfl,pP,wL,_⟩:=Kd.QV HN.out hx;have HG:=aC.mk (And.intro pP wL);clear pP wL;go_wp2_with fail
  go_loopg [9] (xs.length+1) (fun q v9 wr=>∃ i:Nat,v9= .int .i64 (i:Int)∧aC (q+i=xs.length+1∧i≤xs.length)∧aC (Kd.N k86 86 wr w.heap.size (fun k=>okA k∨w.heap.size≤k) (.slice (some ⟨g,0,none⟩) xs.length cap) xs)∧aC (Below w.heap.size w wr)∧aC (g<wr.heap.size))
  case atStart=>exact ⟨0,rfl,⟨by omega,by omega⟩,HN,cY,⟨HG.out.2⟩⟩
  case round=>
   obtain ⟨i,rfl,HQ,HNr,HBr,HGr⟩:=hrel;by_cases hi:i<xs.length
   ·have d1:decide ((i:Int)<(xs.length:Int))=true:=decide_eq_true (by omega);have d2:decide (i<xs.length)=true:=decide_eq_true hi;obtain ⟨ce,hce,hFK,hcell,hfz⟩:=Kd.CA HNr.out z86 (i:Int) (by omega) (by omega);rw [Int.toNat_natCast] at hFK hcell hfz;have hmem:=ayM xs i hi;have ac6:=aC.mk (aqD.out _ hmem);have agI:=aC.mk (awE.out _ hmem);have HST:=aC.mk (apB xs i hi);generalize xs.getD i z86=x at hFK ac6 agI HST;obtain ⟨A3,c3,A4,c4,rfl,l3,F3,l4,F4⟩:=ayW hFK;have ah9:=aC.mk F3;have ZU:=aC.mk F4;have H6:=aC.mk l3;have arU:=aC.mk l4;have HCE:=aC.mk hcell;have f0:wr.cell? ⟨g,i * 5+3,none⟩=some (.slice A3 x.f3.length c3):=hcell 3 _ rfl;have f1:wr.cell? ⟨g,i * 5+4,none⟩=some (.slice A4 x.f4.length c4):=hcell 4 _ rfl;have HZ:aC (wr.frozen? ⟨g,i * 5+3,none⟩=false∧wr.frozen? ⟨g,i * 5+4,none⟩=false):=aC.mk ⟨hfz 3,hfz 4⟩;have HI:=aC.mk hi;replace hi:=eq_true hi;generalize hOK:(fun k=>(okA k∨w.heap.size≤k)∧k≠g)=OKg at ah9 ZU;have HOK:=aC.mk hOK;clear hce hFK hcell hfz hmem F3 F4 l3 l4 hOK;go_upto_region 5 with fail
    generalize wr=Y at *
    -- REGION 5 (gen_stmts5.py)
    refine mK (n:=22) (S:=fun w'=>w'.cell? ⟨g,i * 5+3,none⟩=some (.slice A3 x.f3.length c3)∧w'.cell? ⟨g,i * 5+4,none⟩=some (.slice A4 x.f4.length c4)) (ds:=[18,21]) #[false,false,false,false,false,false,false,false,false,false,false,false,false,false,false,false,false,false,false,false,false,false] (by kernel_rfl) rfl rfl ⟨f0,f1⟩ (fun hHeld=>?_);refine bE (i:=0) (N:=some 12) (v:=?_) (a':=?_) #[true,false,false,false,false,false,false,false,false,false,false,false,false,false,false,false,false,false,false,false,false,false] rfl rfl (by kernel_rfl) (fun _ _ _ h=>h) (Or.inl ⟨by rfl,?_⟩) ?_ ?_
    rotate_left;·intro w';go_simp;with_reducible rfl
    rotate_left;·simp only [Act.put,q1_,q2_,q3_,aG,aH];rfl
    refine bE (i:=1) (N:=some 13) (v:=?_) (a':=?_) #[true,true,false,false,false,false,false,false,false,false,false,false,false,false,false,false,false,false,false,false,false,false] rfl rfl (by kernel_rfl) (fun _ _ _ h=>h) (Or.inl ⟨by rfl,?_⟩) ?_ ?_
    rotate_left;·intro w';go_simp;with_reducible rfl
    rotate_left;·simp only [Act.put,q1_,q2_,q3_,aG,aH];rfl
    refine bE (i:=2) (N:=some 14) (v:=?_) (a':=?_) #[true,true,true,false,false,false,false,false,false,false,false,false,false,false,false,false,false,false,false,false,false,false] rfl rfl (by kernel_rfl) (fun _ _ _ h=>h) (Or.inl ⟨by rfl,?_⟩) ?_ ?_
    rotate_left;·intro w';go_simp;with_reducible rfl
    rotate_left;·simp only [Act.put,q1_,q2_,q3_,aG,aH];rfl
    refine bE (i:=3) (N:=some 15) (v:=?_) (a':=?_) #[true,true,true,true,false,false,false,false,false,false,false,false,false,false,false,false,false,false,false,false,false,false] rfl rfl (by kernel_rfl) (fun _ _ _ h=>h) (Or.inl ⟨by rfl,?_⟩) ?_ ?_
    rotate_left;·intro w';go_simp;with_reducible rfl
    rotate_left;·simp only [Act.put,q1_,q2_,q3_,aG,aH];rfl
    refine bE (i:=4) (N:=some 16) (v:=?_) (a':=?_) #[true,true,true,true,true,false,false,false,false,false,false,false,false,false,false,false,false,false,false,false,false,false] rfl rfl (by kernel_rfl) (fun _ _ _ h=>h) (Or.inl ⟨by rfl,?_⟩) ?_ ?_
    rotate_left;·intro w';go_simp;with_reducible rfl
    rotate_left;·simp only [Act.put,q1_,q2_,q3_,aG,aH];rfl
    refine bE (i:=5) (N:=some 17) (v:=?_) (a':=?_) #[true,true,true,true,true,true,false,false,false,false,false,false,false,false,false,false,false,false,false,false,false,false] rfl rfl (by kernel_rfl) (fun _ _ _ h=>h) (Or.inl ⟨by rfl,?_⟩) ?_ ?_
    rotate_left;·intro w';go_simp;with_reducible rfl
    rotate_left;·simp only [Act.put,q1_,q2_,q3_,aG,aH];rfl
    refine bE (i:=6) (N:=some 18) (v:=?_) (a':=?_) #[true,true,true,true,true,true,true,false,false,false,false,false,false,false,false,false,false,false,false,false,false,false] rfl rfl (by kernel_rfl) (fun _ _ _ h=>h) (Or.inl ⟨by rfl,?_⟩) ?_ ?_
    rotate_left;·intro w';go_simp;with_reducible rfl
    rotate_left;·simp only [Act.put,q1_,q2_,q3_,aG,aH];rfl
    refine bE (i:=7) (N:=some 19) (v:=?_) (a':=?_) #[true,true,true,true,true,true,true,true,false,false,false,false,false,false,false,false,false,false,false,false,false,false] rfl rfl (by kernel_rfl) (fun _ _ _ h=>h) (Or.inl ⟨by rfl,?_⟩) ?_ ?_
    rotate_left;·intro w';go_simp;with_reducible rfl
    rotate_left;·simp only [Act.put,q1_,q2_,q3_,aG,aH];rfl
    refine bE (i:=10) (N:=some 22) (v:=?_) (a':=?_) #[true,true,true,true,true,true,true,true,false,false,true,false,false,false,false,false,false,false,false,false,false,false] rfl rfl (by kernel_rfl) (fun _ _ _ h=>h) (Or.inl ⟨by rfl,?_⟩) ?_ ?_
    rotate_left;·intro w';go_simp;with_reducible rfl
    rotate_left;·simp only [Act.put,q1_,q2_,q3_,aG,aH];rfl
    refine bE (i:=11) (N:=some 23) (v:=?_) (a':=?_) #[true,true,true,true,true,true,true,true,false,false,true,true,false,false,false,false,false,false,false,false,false,false] rfl rfl (by kernel_rfl) (fun _ _ _ h=>h) (Or.inl ⟨by rfl,?_⟩) ?_ ?_
    rotate_left;·intro w';go_simp;with_reducible rfl
    rotate_left;·simp only [Act.put,q1_,q2_,q3_,aG,aH];rfl
    refine bE (i:=12) (N:=some 24) (v:=?_) (a':=?_) #[true,true,true,true,true,true,true,true,false,false,true,true,true,false,false,false,false,false,false,false,false,false] rfl rfl (by kernel_rfl) (fun _ _ _ h=>h) (Or.inl ⟨by rfl,?_⟩) ?_ ?_
    rotate_left;·intro w';go_simp;with_reducible rfl
    rotate_left;·simp only [Act.put,q1_,q2_,q3_,aG,aH];rfl
    refine bE (i:=13) (N:=some 25) (v:=?_) (a':=?_) #[true,true,true,true,true,true,true,true,false,false,true,true,true,true,false,false,false,false,false,false,false,false] rfl rfl (by kernel_rfl) (fun _ _ _ h=>h) (Or.inl ⟨by rfl,?_⟩) ?_ ?_
    rotate_left;·intro w';go_simp;with_reducible rfl
    rotate_left;·simp only [Act.put,q1_,q2_,q3_,aG,aH];rfl
    refine eC (i:=8) (N:=some 20) (v:=?_) (a':=?_) #[true,true,true,true,true,true,true,true,true,false,true,true,true,true,false,false,false,false,false,false,false,false] rfl rfl (by kernel_rfl) (fun _ _ _ h=>h) (Or.inl ⟨by rfl,?_⟩) hHeld ?_ ?_
    rotate_left
    ·rintro w' ⟨s0,s1⟩
     go_simp;with_reducible rfl
    rotate_left;·simp only [Act.put,q1_,q2_,q3_,aG,aH];rfl
    refine eC (i:=14) (N:=some 26) (v:=?_) (a':=?_) #[true,true,true,true,true,true,true,true,true,false,true,true,true,true,true,false,false,false,false,false,false,false] rfl rfl (by kernel_rfl) (fun _ _ _ h=>h) (Or.inl ⟨by rfl,?_⟩) hHeld ?_ ?_
    rotate_left
    ·rintro w' ⟨s0,s1⟩
     go_simp;with_reducible rfl
    rotate_left;·simp only [Act.put,q1_,q2_,q3_,aG,aH];rfl
    refine one_ (i:=9) (N:=some 21) #[true,true,true,true,true,true,true,true,true,true,true,true,true,true,true,false,false,false,false,false,false,false] rfl rfl (by kernel_rfl) (by decide) (fun K hK=>?_);refine mM Tryd.func68 (by kernel_rfl) rfl #[.slice A3 x.f3.length c3] (by rfl) rfl rfl (by simp only [List.map_toArray,List.map_cons,List.map_nil];rfl) ?_
    with_reducible refine (ac6.out _ (fun k=>OKg k) A3 c3 (Kd.kR ah9.out (aJ (Below.refl Y.heap.size Y))) H6.out).mono ?_
    rintro E w2 ⟨B3,d3,rfl,hle_,hF_,hb_⟩
    refine ⟨_,rfl,?_⟩;have cR:=aC.mk (bQ (aJ (Below.refl Y.heap.size Y)) hb_);have aqV:=aC.mk hle_;have as4:=aC.mk hF_;clear hle_ hF_ hb_;refine hK.out _ _ ⟨(cR.out.cell (World.block_lt_of_cell? Y _ f0)).trans f0,(cR.out.cell (World.block_lt_of_cell? Y _ f1)).trans f1⟩ (fun hHeld=>?_);clear hK K;refine aZ (a':=?_) ?_ ?_
    rotate_left
    ·show Act.put _ (some 21) _=_
     simp only [Act.put,q1_,q2_,q3_,aG,aH];rfl
    refine one_ (i:=15) (N:=some 27) #[true,true,true,true,true,true,true,true,true,true,true,true,true,true,true,true,false,false,false,false,false,false] rfl rfl (by kernel_rfl) (by decide) (fun K hK=>?_);refine mM Tryd.func68 (by kernel_rfl) rfl #[.slice A4 x.f4.length c4] (by rfl) rfl rfl (by simp only [List.map_toArray,List.map_cons,List.map_nil];rfl) ?_
    with_reducible refine (agI.out _ (fun k=>OKg k) A4 c4 (Kd.kR ZU.out cR.out) arU.out).mono ?_
    rintro E w3 ⟨B4,d4,rfl,hle_,hF_,hb_⟩
    refine ⟨_,rfl,?_⟩;have gF:=aC.mk (bQ cR.out hb_);have axC:=aC.mk hle_;have alL:=aC.mk hF_;have anX:=aC.mk hb_;clear hle_ hF_ hb_;have z0:w3.frozen? ⟨g,i * 5+3,none⟩=false:=(gF.out.frozen (World.block_lt_of_cell? Y _ f0)).trans HZ.out.1;have z1:w3.frozen? ⟨g,i * 5+4,none⟩=false:=(gF.out.frozen (World.block_lt_of_cell? Y _ f1)).trans HZ.out.2;have q0:w3.cell? ⟨g,i * 5+3,none⟩=some (.slice A3 x.f3.length c3):=(gF.out.cell (World.block_lt_of_cell? Y _ f0)).trans f0;have q1:w3.cell? ⟨g,i * 5+4,none⟩=some (.slice A4 x.f4.length c4):=(gF.out.cell (World.block_lt_of_cell? Y _ f1)).trans f1;refine hK.out _ _ ⟨(gF.out.cell (World.block_lt_of_cell? Y _ f0)).trans f0,(gF.out.cell (World.block_lt_of_cell? Y _ f1)).trans f1⟩ (fun hHeld=>?_);clear hK K;refine aZ (a':=?_) ?_ ?_
    rotate_left
    ·show Act.put _ (some 27) _=_
     simp only [Act.put,q1_,q2_,q3_,aG,aH];rfl
    refine bE (i:=16) (N:=some 28) (v:=?_) (a':=?_) #[true,true,true,true,true,true,true,true,true,true,true,true,true,true,true,true,true,false,false,false,false,false] rfl rfl (by kernel_rfl) (fun _ _ _ h=>h) (Or.inl ⟨by rfl,?_⟩) ?_ ?_
    rotate_left;·intro w';go_simp;with_reducible rfl
    rotate_left;·simp only [Act.put,q1_,q2_,q3_,aG,aH];rfl
    refine bE (i:=17) (N:=some 29) (v:=?_) (a':=?_) #[true,true,true,true,true,true,true,true,true,true,true,true,true,true,true,true,true,true,false,false,false,false] rfl rfl (by kernel_rfl) (fun _ _ _ h=>h) (Or.inl ⟨by rfl,?_⟩) ?_ ?_
    rotate_left;·intro w';go_simp;with_reducible rfl
    rotate_left;·simp only [Act.put,q1_,q2_,q3_,aG,aH];rfl
    refine nZ (i:=18) (N:=none) #[true,true,true,true,true,true,true,true,true,true,true,true,true,true,true,true,true,true,true,false,false,false] rfl rfl (by kernel_rfl) (by decide) (fun K hK=>?_);refine lV (w1:=?_) (by rfl) rfl ?_ ?_
    rotate_left;·go_simp;rfl
    refine hK.out _ _ ?_
    clear hK K;refine bE (i:=19) (N:=some 30) (v:=?_) (a':=?_) #[true,true,true,true,true,true,true,true,true,true,true,true,true,true,true,true,true,true,true,true,false,false] rfl rfl (by kernel_rfl) (fun _ _ _ h=>h) (Or.inl ⟨by rfl,?_⟩) ?_ ?_
    rotate_left;·intro w';go_simp;with_reducible rfl
    rotate_left;·simp only [Act.put,q1_,q2_,q3_,aG,aH];rfl
    refine bE (i:=20) (N:=some 31) (v:=?_) (a':=?_) #[true,true,true,true,true,true,true,true,true,true,true,true,true,true,true,true,true,true,true,true,true,false] rfl rfl (by kernel_rfl) (fun _ _ _ h=>h) (Or.inl ⟨by rfl,?_⟩) ?_ ?_
    rotate_left;·intro w';go_simp;with_reducible rfl
    rotate_left;·simp only [Act.put,q1_,q2_,q3_,aG,aH];rfl
    refine nZ (i:=21) (N:=none) #[true,true,true,true,true,true,true,true,true,true,true,true,true,true,true,true,true,true,true,true,true,true] rfl rfl (by kernel_rfl) (by decide) (fun K hK=>?_);refine lV (w1:=?_) (by rfl) rfl ?_ ?_
    rotate_left;·go_simp;rfl
    refine hK.out _ _ ?_
    clear hK K;refine mP (by kernel_rfl) ?_
    -- END REGION
    clear hHeld q0 q1 z0 z1 f0 f1;have bi:(i:Int)<1000000:=by have:=HL.out;have:=HI.out;omega
    go_wp2
    go_roundg (gk - 1)
    case rel=>
     have hok: ∀ k_,OKg k_→(okA k_∨w.heap.size≤k_)∧k_≠g:=fun k_ hk=>by rw [← HOK.out] at hk;exact hk
     have hok': ∀ k_,(okA k_∨w.heap.size≤k_)∧k_≠g→OKg k_:=fun k_ hk=>by rw [← HOK.out];exact hk
     have hYw:w.heap.size≤Y.heap.size:=HBr.out.size;have hgY:g<Y.heap.size:=HGr.out;have aG1:Y.heap.size≤w2.heap.size:=cR.out.size;have G3:Kd.F k86 w3 OKg B3 x.f3.length x.f3:=Kd.oP (Kd.kR as4.out anX.out) (fun k_ hk=>by
      rcases hk with hk|hk
      ·exact hk
      ·have hk':Y.heap.size≤k_:=hk;exact hok' k_ ⟨.inr (by omega),by omega⟩)
     have G4:Kd.F k86 w3 OKg B4 x.f4.length x.f4:=Kd.oP alL.out (fun k_ hk=>by
      rcases hk with hk|hk
      ·exact hk
      ·have hk':w2.heap.size≤k_:=hk;exact hok' k_ ⟨.inr (by omega),by omega⟩)
     have hseg:=(Kd.OB (Kd.j4 HNr.out gF.out) (i:Int) (by omega) (by have:=HI.out;omega) (c:=[.int .i64 x.f0,.int .i64 x.f1,.string x.f2,.slice A3 x.f3.length c3,.slice A4 x.f4.length c4]) (seg:=[.slice B3 x.f3.length d3,.slice B4 x.f4.length d4]) (j:=3) (x':=x) (okp:=OKg) rfl
      (fun j u hu=>by rw [Int.toNat_natCast];exact (gF.out.cell (World.block_lt_of_cell? Y _ (HCE.out j u hu))).trans (HCE.out j u hu)) (by show 3+2≤5;omega) (aoY w3 OKg x aqV.out G3 axC.out G4) hok).1
     rw [Int.toNat_natCast,HST.out] at hseg;refine ⟨i+1,by go_num,⟨by have:=HQ.out;have:=HI.out;omega,by have:=HI.out;omega⟩,⟨hseg⟩,⟨?_⟩,⟨?_⟩⟩;·exact Below.setCell (Below.setCell (bQ HBr.out gF.out) (p:=⟨g,i * 5+3,none⟩) HG.out.1 _) (p:=⟨g,i * 5+4,none⟩) HG.out.1 _
     ·have:=gF.out.size;simp only [World.setCell,Array.size_modify];omega
    case measure=>have:=HQ.out;have:=HI.out;omega
   ·have d1:decide ((i:Int)<(xs.length:Int))=false:=decide_eq_false (by omega);have d2:decide (i<xs.length)=false:=decide_eq_false hi;have hnc:xs.length≤cap:=(Kd.jE HNr.out).2.1;clear hi;go_wp2_with fail
    refine (adC hnc).mono ?_
    rintro E w5 ⟨rfl,rfl⟩
    go_wp2_with fail
    go_ret
    exact ⟨_,_,rfl,Nat.le_refl _,Kd.N_F HNr.out,HBr.out⟩
 ·obtain rfl:xs= []:=List.eq_nil_of_length_eq_zero (by omega);obtain ⟨A1,c1,rfl⟩:=Kd.mU HN.out;clear hx;have hnc:([]:List St6).length≤c1:=Nat.zero_le _;go_wp2_with fail
  go_loop [9] (fun v9=>v9= .int .i64 0) (fun _=>0)
  case atStart=>rfl
  case round=>
   subst hrel;go_wp2_with fail
   refine (adC (n:=0) (c:=c1) (Nat.zero_le _)).mono ?_
   rintro E w5 ⟨rfl,rfl⟩
   go_wp2_with fail
   go_ret
   exact ⟨A1,0,rfl,Nat.le_refl _,Kd.oP (Kd.N_F HN.out) (fun _ h=>h),cY.out⟩
theorem aA5 (xs:List Fn6) (i:Nat) (h:i<xs.length):xs.getD i z46∈xs:=by
 rw [List.getD_eq_getElem?_getD,List.getElem?_eq_getElem h];exact List.getElem_mem h
theorem aq9 (xs:List Fn6) (i:Nat) (h:i<xs.length):xs.set i (xs.getD i z46)=xs:=by
 rw [List.getD_eq_getElem?_getD,List.getElem?_eq_getElem h];exact List.set_getElem_self h
structure OwnV (w:World) (ok:Nat→Prop) (vs ls:List De6) (fs:List Fn6) (v:Value):Prop where
 out: ∃ B1 d1 B2 d2 B3 d3,v= .agg #[.slice B1 vs.length d1,.slice B2 ls.length d2,.slice B3 fs.length d3]∧(vs.length≤d1∧ls.length≤d2∧fs.length≤d3)∧Kd.F k59 w ok B1 vs.length vs∧Kd.F k59 w ok B2 ls.length ls∧Kd.F k46 w ok B3 fs.length fs
theorem akD {okA:Nat→Prop} {b s:Nat} : ∀ k,((okA k∧k<b)∨b+2≤k)∧k<s→(okA k∨b≤k)∧k≠b+1:=fun k hk=>by
 rcases hk.1 with h|h
 ·exact ⟨.inl h.1,by omega⟩
 ·exact ⟨.inr (by omega),by omega⟩
theorem ag8 {okA:Nat→Prop} {b s:Nat} (hs:b+2≤s): ∀ k,(okA k∧k<b)∨s≤k→(okA k∨b≤k)∧k≠b+1:=fun k hk=>by
 rcases hk with h|h
 ·exact ⟨.inl h.1,by omega⟩
 ·exact ⟨.inr (by omega),by omega⟩
theorem aa0 {w0 wr:World} {b:Nat} {okA okV okF:Nat→Prop} {vs ls:List De6} {fs:List Fn6} {B1 B2 B3:Option Addr} {d1 d2 d3:Nat} (hb:Below b w0 wr) (hl:vs.length≤d1∧ls.length≤d2∧fs.length≤d3)
  (h1:Kd.F k59 wr okV B1 vs.length vs) (h2:Kd.F k59 wr okV B2 ls.length ls) (h3:Kd.F k46 wr okF B3 fs.length fs)
  (hV: ∀ k,okV k→(okA k∨b≤k)∧k≠b+1) (hF: ∀ k,okF k→(okA k∨b≤k)∧k≠b+1) (x y z:Value):
  OwnV (((wr.setCell ⟨b+1,0,none⟩ x).setCell ⟨b+1,1,none⟩ y).setCell ⟨b+1,2,none⟩ z) (fun k=>okA k∨b≤k) vs ls fs (.agg #[.slice B1 vs.length d1,.slice B2 ls.length d2,.slice B3 fs.length d3])∧Below b w0 (((wr.setCell ⟨b+1,0,none⟩ x).setCell ⟨b+1,1,none⟩ y).setCell ⟨b+1,2,none⟩ z):=by
 have far: ∀ {α:Type} {d:Kd α} {ok:Nat→Prop} {A:Option Addr} {xs:List α},(∀ k,ok k→(okA k∨b≤k)∧k≠b+1)→Kd.F d wr ok A xs.length xs→Kd.F d (((wr.setCell ⟨b+1,0,none⟩ x).setCell ⟨b+1,1,none⟩ y).setCell ⟨b+1,2,none⟩ z) (fun k=>okA k∨b≤k) A xs.length xs:=fun hk h=>
  Kd.oP (Kd.qD (Kd.qD (Kd.qD h (p:=⟨b+1,0,none⟩) (fun k h_=>(hk k h_).2) x) (p:=⟨b+1,1,none⟩) (fun k h_=>(hk k h_).2) y) (p:=⟨b+1,2,none⟩) (fun k h_=>(hk k h_).2) z) (fun k h_=>(hk k h_).1)
 refine ⟨⟨_,_,_,_,_,_,rfl,hl,far hV h1,far hV h2,far hF h3⟩,?_⟩;exact Below.setCell (Below.setCell (Below.setCell hb (p:=⟨b+1,0,none⟩) (Nat.le_succ b) x) (p:=⟨b+1,1,none⟩) (Nat.le_succ b) y) (p:=⟨b+1,2,none⟩) (Nat.le_succ b) z
set_option maxRecDepth 100000 in
set_option maxHeartbeats 1600000 in
theorem aAZ {vs ls:List De6} {fs:List Fn6} (hbd: ∀ x∈fs,Bnd x.f2) (vM:vs.length≤1000000) (QE:ls.length≤1000000) (ai4:fs.length≤1000000) (w:World) (okA:Nat→Prop) {A1 A2 A3:Option Addr} {c1 c2 c3:Nat}
  (h1:Kd.F k59 w okA A1 vs.length vs) (h2:Kd.F k59 w okA A2 ls.length ls) (h3:Kd.F k46 w okA A3 fs.length fs):
  Calls Tryd.prog 34 #[.agg #[.slice A1 vs.length c1,.slice A2 ls.length c2,.slice A3 fs.length c3]] w fun E w'=>∃ v,E= .returned v∧OwnV w' (fun k=>okA k∨w.heap.size≤k) vs ls fs v∧Below w.heap.size w w':=by
 have hu:=Tryd.underlying30;have HBDA:=aC.mk hbd;have abE:=aC.mk vM;have ZQ:=aC.mk QE;have H6:=aC.mk ai4;have g0:=gC w (.cells #[.slice A1 vs.length c1,.slice A2 ls.length c2,.slice A3 fs.length c3] 30);have fM:=aI (Below.refl w.heap.size w) (.cells #[.slice A1 vs.length c1,.slice A2 ls.length c2,.slice A3 fs.length c3] 30);have g1:=aQ g0 (.cells #[.slice none 0 0,.slice none 0 0,.slice none 0 0] 30);have r1:=gC (w.alloc (.cells #[.slice A1 vs.length c1,.slice A2 ls.length c2,.slice A3 fs.length c3] 30)) (.cells #[.slice none 0 0,.slice none 0 0,.slice none 0 0] 30);have bR:=aI fM (.cells #[.slice none 0 0,.slice none 0 0,.slice none 0 0] 30);have lC:(w.alloc (.cells #[.slice A1 vs.length c1,.slice A2 ls.length c2,.slice A3 fs.length c3] 30)).heap.size=w.heap.size+1:=by simp only [World.alloc,Array.size_push]
 rw [lC] at r1;have H1:=aC.mk (Kd.kR (Kd.uS h1) bR);have H2:=aC.mk (Kd.kR (Kd.uS h2) bR);have H3:=aC.mk (Kd.kR (Kd.uS h3) bR);have ayJ:aC (((w.alloc (.cells #[.slice A1 vs.length c1,.slice A2 ls.length c2,.slice A3 fs.length c3] 30)).alloc (.cells #[.slice none 0 0,.slice none 0 0,.slice none 0 0] 30)).heap.size=w.heap.size+2):=⟨by simp only [World.alloc,Array.size_push]⟩;have AS:=aC.mk g1;have nX:=aC.mk r1;have wO:=aC.mk bR;clear hbd vM QE ai4 h1 h2 h3 g0 fM g1 r1 bR;go_enter Tryd.func34,Tryd.ntmps34
 go_upto_region 1 with fail
 try rw [lC]
 clear lC;generalize (w.alloc (.cells #[.slice A1 vs.length c1,.slice A2 ls.length c2,.slice A3 fs.length c3] 30)).alloc (.cells #[.slice none 0 0,.slice none 0 0,.slice none 0 0] 30)=Y at *;generalize hbw:w.heap.size=b at *;have f0:=aD AS.out 0;have f1:=aD AS.out 1;have f2:=aD AS.out 2;have HZ:aC (Y.frozen? ⟨b,0,none⟩=false∧Y.frozen? ⟨b,1,none⟩=false∧Y.frozen? ⟨b,2,none⟩=false):=⟨aT AS.out 0,aT AS.out 1,aT AS.out 2⟩;have stepB: ∀ {u v:World},Below b w u→Below u.heap.size u v→Below b w v:=fun {u v} h1 h2=>by
  rw [← hbw] at h1 ⊢;exact bQ h1 h2
 -- REGION 1 (gen_own.py)
 refine mK (n:=15) (S:=fun w'=>w'.cell? ⟨b,0,none⟩=some (.slice A1 vs.length c1)∧w'.cell? ⟨b,1,none⟩=some (.slice A2 ls.length c2)∧w'.cell? ⟨b,2,none⟩=some (.slice A3 fs.length c3)) (ds:=[10,12,14]) #[false,false,false,false,false,false,false,false,false,false,false,false,false,false,false] (by kernel_rfl) rfl rfl ⟨f0,f1,f2⟩ (fun hHeld=>?_);refine bE (i:=0) (N:=some 4) (v:=?_) (a':=?_) #[true,false,false,false,false,false,false,false,false,false,false,false,false,false,false] rfl rfl (by kernel_rfl) (fun _ _ _ h=>h) (Or.inl ⟨by rfl,?_⟩) ?_ ?_
 rotate_left;·intro w';go_simp;with_reducible rfl
 rotate_left;·simp only [Act.put,q1_,q2_,q3_,aG,aH];rfl
 refine bE (i:=3) (N:=some 7) (v:=?_) (a':=?_) #[true,false,false,true,false,false,false,false,false,false,false,false,false,false,false] rfl rfl (by kernel_rfl) (fun _ _ _ h=>h) (Or.inl ⟨by rfl,?_⟩) ?_ ?_
 rotate_left;·intro w';go_simp;with_reducible rfl
 rotate_left;·simp only [Act.put,q1_,q2_,q3_,aG,aH];rfl
 refine bE (i:=6) (N:=some 10) (v:=?_) (a':=?_) #[true,false,false,true,false,false,true,false,false,false,false,false,false,false,false] rfl rfl (by kernel_rfl) (fun _ _ _ h=>h) (Or.inl ⟨by rfl,?_⟩) ?_ ?_
 rotate_left;·intro w';go_simp;with_reducible rfl
 rotate_left;·simp only [Act.put,q1_,q2_,q3_,aG,aH];rfl
 refine eC (i:=1) (N:=some 5) (v:=?_) (a':=?_) #[true,true,false,true,false,false,true,false,false,false,false,false,false,false,false] rfl rfl (by kernel_rfl) (fun _ _ _ h=>h) (Or.inl ⟨by rfl,?_⟩) hHeld ?_ ?_
 rotate_left
 ·rintro w' ⟨s0,s1,s2⟩
  go_simp;with_reducible rfl
 rotate_left;·simp only [Act.put,q1_,q2_,q3_,aG,aH];rfl
 refine eC (i:=4) (N:=some 8) (v:=?_) (a':=?_) #[true,true,false,true,true,false,true,false,false,false,false,false,false,false,false] rfl rfl (by kernel_rfl) (fun _ _ _ h=>h) (Or.inl ⟨by rfl,?_⟩) hHeld ?_ ?_
 rotate_left
 ·rintro w' ⟨s0,s1,s2⟩
  go_simp;with_reducible rfl
 rotate_left;·simp only [Act.put,q1_,q2_,q3_,aG,aH];rfl
 refine eC (i:=7) (N:=some 11) (v:=?_) (a':=?_) #[true,true,false,true,true,false,true,true,false,false,false,false,false,false,false] rfl rfl (by kernel_rfl) (fun _ _ _ h=>h) (Or.inl ⟨by rfl,?_⟩) hHeld ?_ ?_
 rotate_left
 ·rintro w' ⟨s0,s1,s2⟩
  go_simp;with_reducible rfl
 rotate_left;·simp only [Act.put,q1_,q2_,q3_,aG,aH];rfl
 refine one_ (i:=2) (N:=some 6) #[true,true,true,true,true,false,true,true,false,false,false,false,false,false,false] rfl rfl (by kernel_rfl) (by decide) (fun K hK=>?_);refine mM Tryd.func66 (by kernel_rfl) rfl #[.slice A1 vs.length c1] (by rfl) rfl rfl (by simp only [List.map_toArray,List.map_cons,List.map_nil];rfl) ?_
 with_reducible refine (agF (Kd.kR H1.out (aJ (Below.refl Y.heap.size Y))) abE.out).mono ?_
 rintro E w2 ⟨v1,rfl,hN_,hb_⟩
 refine ⟨_,rfl,?_⟩;have l8:=aC.mk hN_;have cY:=aC.mk (bQ (aJ (Below.refl Y.heap.size Y)) hb_);have adZ:=aC.mk hb_;obtain ⟨B1,d1,rfl⟩:=Kd.mU hN_;clear hN_ hb_;refine hK.out _ _ ⟨(cY.out.cell (World.block_lt_of_cell? Y _ f0)).trans f0,(cY.out.cell (World.block_lt_of_cell? Y _ f1)).trans f1,(cY.out.cell (World.block_lt_of_cell? Y _ f2)).trans f2⟩ (fun hHeld=>?_);clear hK K;refine aZ (a':=?_) ?_ ?_
 rotate_left
 ·show Act.put _ (some 6) _=_
  simp only [Act.put,q1_,q2_,q3_,aG,aH];rfl
 refine bE (i:=9) (N:=some 13) (v:=?_) (a':=?_) #[true,true,true,true,true,false,true,true,false,true,false,false,false,false,false] rfl rfl (by kernel_rfl) (fun _ _ _ h=>h) (Or.inl ⟨by rfl,?_⟩) ?_ ?_
 rotate_left;·intro w';go_simp;with_reducible rfl
 rotate_left;·simp only [Act.put,q1_,q2_,q3_,aG,aH];rfl
 refine one_ (i:=5) (N:=some 9) #[true,true,true,true,true,true,true,true,false,true,false,false,false,false,false] rfl rfl (by kernel_rfl) (by decide) (fun K hK=>?_);refine mM Tryd.func66 (by kernel_rfl) rfl #[.slice A2 ls.length c2] (by rfl) rfl rfl (by simp only [List.map_toArray,List.map_cons,List.map_nil];rfl) ?_
 with_reducible refine (agF (Kd.kR H2.out cY.out) ZQ.out).mono ?_
 rintro E w3 ⟨v2,rfl,hN_,hb_⟩
 refine ⟨_,rfl,?_⟩;have adN:=aC.mk hN_;have cR:=aC.mk (bQ cY.out hb_);have oK:=aC.mk hb_;obtain ⟨B2,d2,rfl⟩:=Kd.mU hN_;clear hN_ hb_;refine hK.out _ _ ⟨(cR.out.cell (World.block_lt_of_cell? Y _ f0)).trans f0,(cR.out.cell (World.block_lt_of_cell? Y _ f1)).trans f1,(cR.out.cell (World.block_lt_of_cell? Y _ f2)).trans f2⟩ (fun hHeld=>?_);clear hK K;refine aZ (a':=?_) ?_ ?_
 rotate_left
 ·show Act.put _ (some 9) _=_
  simp only [Act.put,q1_,q2_,q3_,aG,aH];rfl
 refine one_ (i:=8) (N:=some 12) #[true,true,true,true,true,true,true,true,true,true,false,false,false,false,false] rfl rfl (by kernel_rfl) (by decide) (fun K hK=>?_);refine mM Tryd.func67 (by kernel_rfl) rfl #[.slice A3 fs.length c3] (by rfl) rfl rfl (by simp only [List.map_toArray,List.map_cons,List.map_nil];rfl) ?_
 with_reducible refine (axZ (Kd.kR H3.out cR.out) H6.out).mono ?_
 rintro E w4 ⟨v3,rfl,hN_,hb_⟩
 refine ⟨_,rfl,?_⟩;have ac7:=aC.mk hN_;have gF:=aC.mk (bQ cR.out hb_);have jH:=aC.mk hb_;obtain ⟨B3,d3,rfl⟩:=Kd.mU hN_;clear hN_ hb_;have z0:w4.frozen? ⟨b,0,none⟩=false:=(gF.out.frozen (World.block_lt_of_cell? Y _ f0)).trans HZ.out.1;have q0:w4.cell? ⟨b,0,none⟩=some (.slice A1 vs.length c1):=(gF.out.cell (World.block_lt_of_cell? Y _ f0)).trans f0;have z1:w4.frozen? ⟨b,1,none⟩=false:=(gF.out.frozen (World.block_lt_of_cell? Y _ f1)).trans HZ.out.2.1;have q1:w4.cell? ⟨b,1,none⟩=some (.slice A2 ls.length c2):=(gF.out.cell (World.block_lt_of_cell? Y _ f1)).trans f1;have z2:w4.frozen? ⟨b,2,none⟩=false:=(gF.out.frozen (World.block_lt_of_cell? Y _ f2)).trans HZ.out.2.2;have q2:w4.cell? ⟨b,2,none⟩=some (.slice A3 fs.length c3):=(gF.out.cell (World.block_lt_of_cell? Y _ f2)).trans f2;refine hK.out _ _ ⟨(gF.out.cell (World.block_lt_of_cell? Y _ f0)).trans f0,(gF.out.cell (World.block_lt_of_cell? Y _ f1)).trans f1,(gF.out.cell (World.block_lt_of_cell? Y _ f2)).trans f2⟩ (fun hHeld=>?_);clear hK K;refine aZ (a':=?_) ?_ ?_
 rotate_left
 ·show Act.put _ (some 12) _=_
  simp only [Act.put,q1_,q2_,q3_,aG,aH];rfl
 refine nZ (i:=10) (N:=none) #[true,true,true,true,true,true,true,true,true,true,true,false,false,false,false] rfl rfl (by kernel_rfl) (by decide) (fun K hK=>?_);refine lV (w1:=?_) (by rfl) rfl ?_ ?_
 rotate_left;·go_simp;rfl
 refine hK.out _ _ ?_
 clear hK K;refine bE (i:=11) (N:=some 14) (v:=?_) (a':=?_) #[true,true,true,true,true,true,true,true,true,true,true,true,false,false,false] rfl rfl (by kernel_rfl) (fun _ _ _ h=>h) (Or.inl ⟨by rfl,?_⟩) ?_ ?_
 rotate_left;·intro w';go_simp;with_reducible rfl
 rotate_left;·simp only [Act.put,q1_,q2_,q3_,aG,aH];rfl
 refine nZ (i:=12) (N:=none) #[true,true,true,true,true,true,true,true,true,true,true,true,true,false,false] rfl rfl (by kernel_rfl) (by decide) (fun K hK=>?_);refine lV (w1:=?_) (by rfl) rfl ?_ ?_
 rotate_left;·go_simp;rfl
 refine hK.out _ _ ?_
 clear hK K;refine bE (i:=13) (N:=some 15) (v:=?_) (a':=?_) #[true,true,true,true,true,true,true,true,true,true,true,true,true,true,false] rfl rfl (by kernel_rfl) (fun _ _ _ h=>h) (Or.inl ⟨by rfl,?_⟩) ?_ ?_
 rotate_left;·intro w';go_simp;with_reducible rfl
 rotate_left;·simp only [Act.put,q1_,q2_,q3_,aG,aH];rfl
 refine nZ (i:=14) (N:=none) #[true,true,true,true,true,true,true,true,true,true,true,true,true,true,true] rfl rfl (by kernel_rfl) (by decide) (fun K hK=>?_);refine lV (w1:=?_) (by rfl) rfl ?_ ?_
 rotate_left;·go_simp;rfl
 refine hK.out _ _ ?_
 clear hK K;refine mP (by kernel_rfl) ?_
 -- END REGION
 clear hHeld q0 q1 q2 z0 z1 z2 f0 f1 f2;have hY:Y.heap.size=b+2:=ayJ.out;have e2:=cY.out.size;have e3:=cR.out.size;have aIY:w2.heap.size≤w3.heap.size:=oK.out.size;have e4:w3.heap.size≤w4.heap.size:=jH.out.size;have hdr: ∀ k,Y.heap.size≤k→b+2≤k:=fun k hk=>by omega
 have F1:Kd.F k59 w4 (fun k=>((okA k∧k<b)∨b+2≤k)∧k<w3.heap.size) B1 vs.length vs:=Kd.kR (Kd.kR (Kd.oP (Kd.uS (Kd.N_F l8.out)) (fun k hk=>by
  have jQ:=hk.2;refine ⟨?_,by omega⟩;rcases hk.1 with mT|mT
  ·exact .inl mT
  ·exact .inr (hdr k mT))) oK.out) jH.out
 have F2:Kd.F k59 w4 (fun k=>((okA k∧k<b)∨b+2≤k)∧k<w3.heap.size) B2 ls.length ls:=Kd.kR (Kd.oP (Kd.uS (Kd.N_F adN.out)) (fun k hk=>by
  have jQ:=hk.2;refine ⟨?_,jQ⟩;rcases hk.1 with mT|mT
  ·exact .inl mT
  ·have aHM:w2.heap.size≤k:=mT;exact .inr (by omega))) jH.out
 have ap9:b+2≤w3.heap.size:=by omega
 have HD:aC (vs.length≤d1∧ls.length≤d2∧fs.length≤d3):=⟨(Kd.jE l8.out).2.1,(Kd.jE adN.out).2.1,(Kd.jE ac7.out).2.1⟩;have G:=bX (bX (bX (dB AS.out gF.out) 0 (.slice B1 vs.length d1) rfl) 1 (.slice B2 ls.length d2) rfl) 2 (.slice B3 fs.length d3) rfl;have RR:=dT (dT (dT (dB nX.out gF.out) (p:=⟨b,0,none⟩) (show b+1≠b by omega) (.slice B1 vs.length d1)) (p:=⟨b,1,none⟩) (show b+1≠b by omega) (.slice B2 ls.length d2)) (p:=⟨b,2,none⟩) (show b+1≠b by omega) (.slice B3 fs.length d3);have ai0: ∀ {ok:Nat→Prop} {α:Type} {d:Kd α} {A:Option Addr} {n:Nat} {xs:List α},(∀ k,ok k→k≠b)→Kd.F d w4 ok A n xs→Kd.F d (((w4.setCell ⟨b,0,none⟩ (.slice B1 vs.length d1)).setCell ⟨b,1,none⟩ (.slice B2 ls.length d2)).setCell ⟨b,2,none⟩ (.slice B3 fs.length d3)) ok A n xs:=fun hk h=>Kd.qD (Kd.qD (Kd.qD h (p:=⟨b,0,none⟩) hk _) (p:=⟨b,1,none⟩) hk _) (p:=⟨b,2,none⟩) hk _
 have Z4:=aC.mk (ai0 (fun k hk=>by rcases hk.1 with h_|h_<;>omega) F1);have ahN:=aC.mk (ai0 (fun k hk=>by rcases hk.1 with h_|h_<;>omega) F2);have E1: ∀ k,(okA k∧k<b)∨w3.heap.size≤k→k≠b:=fun k hk=>by rcases hk with h_|h_<;>omega
 have TJ:Kd.N k46 46 w4 w3.heap.size (fun k=>(okA k∧k<b)∨w3.heap.size≤k) (.slice B3 fs.length d3) fs:=ac7.out;have N3:Kd.N k46 46 (((w4.setCell ⟨b,0,none⟩ (.slice B1 vs.length d1)).setCell ⟨b,1,none⟩ (.slice B2 ls.length d2)).setCell ⟨b,2,none⟩ (.slice B3 fs.length d3)) w3.heap.size (fun k=>(okA k∧k<b)∨w3.heap.size≤k) (.slice B3 fs.length d3) fs:=
  Kd.eN (Kd.eN (Kd.eN TJ (p:=⟨b,0,none⟩) E1 _) (p:=⟨b,1,none⟩) E1 _) (p:=⟨b,2,none⟩) E1 _
 have HBZ:=aC.mk (Below.setCell (Below.setCell (Below.setCell (stepB wO.out gF.out) (p:=⟨b,0,none⟩) (Nat.le_refl b) (.slice B1 vs.length d1)) (p:=⟨b,1,none⟩) (Nat.le_refl b) (.slice B2 ls.length d2)) (p:=⟨b,2,none⟩) (Nat.le_refl b) (.slice B3 fs.length d3));have hsz:(((w4.setCell ⟨b,0,none⟩ (.slice B1 vs.length d1)).setCell ⟨b,1,none⟩ (.slice B2 ls.length d2)).setCell ⟨b,2,none⟩ (.slice B3 fs.length d3)).heap.size=w4.heap.size:=by simp [World.setCell]
 have SV:=aC.mk N3;have HG:=aC.mk G;have HR:=aC.mk RR;have SH:=aC.mk ap9;generalize aBN:w3.heap.size=s3 at *;go_upto_region 2 with fail
 generalize ((w4.setCell ⟨b,0,none⟩ (.slice B1 vs.length d1)).setCell ⟨b,1,none⟩ (.slice B2 ls.length d2)).setCell ⟨b,2,none⟩ (.slice B3 fs.length d3)=Z at *;by_cases hx:0<fs.length
 ·obtain ⟨g,cap,he_,pP,wL,_⟩:=Kd.QV SV.out hx;injection he_ with M0 GW V4
  subst M0;subst V4;have HGG:=aC.mk (And.intro pP wL);have k2:=aD HG.out 2;clear pP wL GW F1 F2 N3 TJ G RR;go_wp2_with fail
  clear k2;go_loopg [19] (fs.length+1) (fun q SM wr=>∃ i:Nat,SM= .int .i64 (i:Int)∧aC (q+i=fs.length+1∧i≤fs.length)∧aC (Kd.N k46 46 wr s3 (fun k=>(okA k∧k<b)∨s3≤k) (.slice (some ⟨g,0,none⟩) fs.length d3) fs)∧aC (Below b w wr)∧aC (g<wr.heap.size)∧aC (wr.heap[b]? =some (.cells #[.slice B1 vs.length d1,.slice B2 ls.length d2,.slice (some ⟨g,0,none⟩) fs.length d3] 30 (0,0)))∧aC (wr.heap[b+1]? =some (.cells #[.slice none 0 0,.slice none 0 0,.slice none 0 0] 30 (0,0)))∧aC (Kd.F k59 wr (fun k=>((okA k∧k<b)∨b+2≤k)∧k<s3) B1 vs.length vs)∧aC (Kd.F k59 wr (fun k=>((okA k∧k<b)∨b+2≤k)∧k<s3) B2 ls.length ls))
  case atStart=>exact ⟨0,rfl,⟨by omega,by omega⟩,SV,HBZ,⟨HGG.out.2⟩,HG,HR,Z4,ahN⟩
  case round=>
   obtain ⟨i,rfl,HQ,HNr,HBr,HGr,HBb,nY,LY,OP⟩:=hrel;by_cases hi:i<fs.length
   ·have az9:decide ((i:Int)<(fs.length:Int))=true:=decide_eq_true (by omega);have anG:decide (i<fs.length)=true:=decide_eq_true hi;obtain ⟨ce,hce,hFK,hcell,hfz⟩:=Kd.CA HNr.out z46 (i:Int) (by omega) (by omega);rw [Int.toNat_natCast] at hFK hcell hfz;have hmem:=aA5 fs i hi;have HBD:=aC.mk (HBDA.out _ hmem);have HST:=aC.mk (aq9 fs i hi);generalize fs.getD i z46=x at hFK HBD HST;obtain ⟨A5,c5,rfl,l5,F5⟩:=yQ hFK;have akA:=aC.mk F5;have YP:=aC.mk l5;have HCE:=aC.mk hcell;have f0:wr.cell? ⟨b,2,none⟩=some (.slice (some ⟨g,0,none⟩) fs.length d3):=aD HBb.out 2;have f1:wr.cell? ⟨g,i * 3+2,none⟩=some (.slice A5 x.f2.length c5):=hcell 2 _ rfl;have HZ:aC (wr.frozen? ⟨g,i * 3+2,none⟩=false):=aC.mk (hfz 2);have HI:=aC.mk hi;replace hi:=eq_true hi;generalize hOK:(fun k=>((okA k∧k<b)∨s3≤k)∧k≠g)=OKg at akA;have HOK:=aC.mk hOK;clear hce hFK hcell hfz hmem F5 l5 hOK;go_upto_region 5 with fail
    generalize wr=Y2 at *
    -- REGION 5 (gen_own.py)
    refine mK (n:=13) (S:=fun w'=>w'.cell? ⟨b,2,none⟩=some (.slice (some ⟨g,0,none⟩) fs.length d3)∧w'.cell? ⟨g,i * 3+2,none⟩=some (.slice A5 x.f2.length c5)) (ds:=[12]) #[false,false,false,false,false,false,false,false,false,false,false,false,false] (by kernel_rfl) rfl rfl ⟨f0,f1⟩ (fun hHeld=>?_);refine bE (i:=0) (N:=some 22) (v:=?_) (a':=?_) #[true,false,false,false,false,false,false,false,false,false,false,false,false] rfl rfl (by kernel_rfl) (fun _ _ _ h=>h) (Or.inl ⟨by rfl,?_⟩) ?_ ?_
    rotate_left;·intro w';go_simp;with_reducible rfl
    rotate_left;·simp only [Act.put,q1_,q2_,q3_,aG,aH];rfl
    refine bE (i:=2) (N:=some 24) (v:=?_) (a':=?_) #[true,false,true,false,false,false,false,false,false,false,false,false,false] rfl rfl (by kernel_rfl) (fun _ _ _ h=>h) (Or.inl ⟨by rfl,?_⟩) ?_ ?_
    rotate_left;·intro w';go_simp;with_reducible rfl
    rotate_left;·simp only [Act.put,q1_,q2_,q3_,aG,aH];rfl
    refine bE (i:=3) (N:=some 25) (v:=?_) (a':=?_) #[true,false,true,true,false,false,false,false,false,false,false,false,false] rfl rfl (by kernel_rfl) (fun _ _ _ h=>h) (Or.inl ⟨by rfl,?_⟩) ?_ ?_
    rotate_left;·intro w';go_simp;with_reducible rfl
    rotate_left;·simp only [Act.put,q1_,q2_,q3_,aG,aH];rfl
    refine bE (i:=5) (N:=some 27) (v:=?_) (a':=?_) #[true,false,true,true,false,true,false,false,false,false,false,false,false] rfl rfl (by kernel_rfl) (fun _ _ _ h=>h) (Or.inl ⟨by rfl,?_⟩) ?_ ?_
    rotate_left;·intro w';go_simp;with_reducible rfl
    rotate_left;·simp only [Act.put,q1_,q2_,q3_,aG,aH];rfl
    refine eC (i:=1) (N:=some 23) (v:=?_) (a':=?_) #[true,true,true,true,false,true,false,false,false,false,false,false,false] rfl rfl (by kernel_rfl) (fun _ _ _ h=>h) (Or.inl ⟨by rfl,?_⟩) hHeld ?_ ?_
    rotate_left
    ·rintro w' ⟨s0,s1⟩
     go_simp;with_reducible rfl
    rotate_left;·simp only [Act.put,q1_,q2_,q3_,aG,aH];rfl
    refine eC (i:=4) (N:=some 26) (v:=?_) (a':=?_) #[true,true,true,true,true,true,false,false,false,false,false,false,false] rfl rfl (by kernel_rfl) (fun _ _ _ h=>h) (Or.inl ⟨by rfl,?_⟩) hHeld ?_ ?_
    rotate_left
    ·rintro w' ⟨s0,s1⟩
     go_simp;with_reducible rfl
    rotate_left;·simp only [Act.put,q1_,q2_,q3_,aG,aH];rfl
    refine bE (i:=6) (N:=some 28) (v:=?_) (a':=?_) #[true,true,true,true,true,true,true,false,false,false,false,false,false] rfl rfl (by kernel_rfl) (fun _ _ _ h=>h) (Or.inl ⟨by rfl,?_⟩) ?_ ?_
    rotate_left;·intro w';go_simp;with_reducible rfl
    rotate_left;·simp only [Act.put,q1_,q2_,q3_,aG,aH];rfl
    refine bE (i:=7) (N:=some 29) (v:=?_) (a':=?_) #[true,true,true,true,true,true,true,true,false,false,false,false,false] rfl rfl (by kernel_rfl) (fun _ _ _ h=>h) (Or.inl ⟨by rfl,?_⟩) ?_ ?_
    rotate_left;·intro w';go_simp;with_reducible rfl
    rotate_left;·simp only [Act.put,q1_,q2_,q3_,aG,aH];rfl
    refine eC (i:=8) (N:=some 30) (v:=?_) (a':=?_) #[true,true,true,true,true,true,true,true,true,false,false,false,false] rfl rfl (by kernel_rfl) (fun _ _ _ h=>h) (Or.inl ⟨by rfl,?_⟩) hHeld ?_ ?_
    rotate_left
    ·rintro w' ⟨s0,s1⟩
     go_simp;with_reducible rfl
    rotate_left;·simp only [Act.put,q1_,q2_,q3_,aG,aH];rfl
    refine one_ (i:=9) (N:=some 31) #[true,true,true,true,true,true,true,true,true,true,false,false,false] rfl rfl (by kernel_rfl) (by decide) (fun K hK=>?_);refine mM Tryd.func68 (by kernel_rfl) rfl #[.slice A5 x.f2.length c5] (by rfl) rfl rfl (by simp only [List.map_toArray,List.map_cons,List.map_nil];rfl) ?_
    with_reducible refine (ak3 HBD.out _ (fun k=>OKg k) A5 c5 (Kd.kR akA.out (aJ (Below.refl Y2.heap.size Y2))) YP.out).mono ?_
    rintro E w6 ⟨B5,d5,rfl,hle_,hF_,hb_⟩
    refine ⟨_,rfl,?_⟩;have cR:=aC.mk (bQ (aJ (Below.refl Y2.heap.size Y2)) hb_);have axH:=aC.mk hle_;have atK:=aC.mk hF_;clear hle_ hF_ hb_;have z1:w6.frozen? ⟨g,i * 3+2,none⟩=false:=(cR.out.frozen (World.block_lt_of_cell? Y2 _ f1)).trans HZ.out;have q1:w6.cell? ⟨g,i * 3+2,none⟩=some (.slice A5 x.f2.length c5):=(cR.out.cell (World.block_lt_of_cell? Y2 _ f1)).trans f1;refine hK.out _ _ ⟨(cR.out.cell (World.block_lt_of_cell? Y2 _ f0)).trans f0,(cR.out.cell (World.block_lt_of_cell? Y2 _ f1)).trans f1⟩ (fun hHeld=>?_);clear hK K;refine aZ (a':=?_) ?_ ?_
    rotate_left
    ·show Act.put _ (some 31) _=_
     simp only [Act.put,q1_,q2_,q3_,aG,aH];rfl
    refine bE (i:=10) (N:=some 32) (v:=?_) (a':=?_) #[true,true,true,true,true,true,true,true,true,true,true,false,false] rfl rfl (by kernel_rfl) (fun _ _ _ h=>h) (Or.inl ⟨by rfl,?_⟩) ?_ ?_
    rotate_left;·intro w';go_simp;with_reducible rfl
    rotate_left;·simp only [Act.put,q1_,q2_,q3_,aG,aH];rfl
    refine bE (i:=11) (N:=some 33) (v:=?_) (a':=?_) #[true,true,true,true,true,true,true,true,true,true,true,true,false] rfl rfl (by kernel_rfl) (fun _ _ _ h=>h) (Or.inl ⟨by rfl,?_⟩) ?_ ?_
    rotate_left;·intro w';go_simp;with_reducible rfl
    rotate_left;·simp only [Act.put,q1_,q2_,q3_,aG,aH];rfl
    refine nZ (i:=12) (N:=none) #[true,true,true,true,true,true,true,true,true,true,true,true,true] rfl rfl (by kernel_rfl) (by decide) (fun K hK=>?_);refine lV (w1:=?_) (by rfl) rfl ?_ ?_
    rotate_left;·go_simp;rfl
    refine hK.out _ _ ?_
    clear hK K;refine mP (by kernel_rfl) ?_
    -- END REGION
    clear hHeld q1 z1 f0 f1;have bi:(i:Int)<1000000:=by have:=H6.out;have:=HI.out;omega
    go_wp2
    go_roundg (gk - 1)
    case rel=>
     have aFG:=SH.out;have hok: ∀ k_,OKg k_→((okA k_∧k_<b)∨s3≤k_)∧k_≠g:=fun k_ hk=>by rw [← HOK.out] at hk;exact hk
     have hok': ∀ k_,((okA k_∧k_<b)∨s3≤k_)∧k_≠g→OKg k_:=fun k_ hk=>by rw [← HOK.out];exact hk
     have hgY:g<Y2.heap.size:=HGr.out;have hgs:=HGG.out.1;have G5:Kd.F k86 w6 OKg B5 x.f2.length x.f2:=Kd.oP atK.out (fun k_ hk=>by
      rcases hk with hk|hk
      ·exact hk
      ·have hk':Y2.heap.size≤k_:=hk;exact hok' k_ ⟨.inr (by omega),by omega⟩)
     have hseg:=(Kd.OB (Kd.j4 HNr.out cR.out) (i:Int) (by omega) (by have:=HI.out;omega) (c:=[.string x.f0,.int .i64 x.f1,.slice A5 x.f2.length c5]) (seg:=[.slice B5 x.f2.length d5]) (j:=2) (x':=x) (okp:=OKg) rfl
      (fun j u hu=>by rw [Int.toNat_natCast];exact (cR.out.cell (World.block_lt_of_cell? Y2 _ (HCE.out j u hu))).trans (HCE.out j u hu)) (by show 2+1≤3;omega) (uM w6 OKg x axH.out G5) hok).1
     rw [Int.toNat_natCast,HST.out] at hseg;refine ⟨i+1,by go_num,⟨by have:=HQ.out;have:=HI.out;omega,by have:=HI.out;omega⟩,⟨hseg⟩,⟨?_⟩,⟨?_⟩,⟨?_⟩,⟨?_⟩,⟨?_⟩,⟨?_⟩⟩;·exact Below.setCell (stepB HBr.out cR.out) (p:=⟨g,i * 3+2,none⟩) (show b≤g by omega) _
     ·have:=cR.out.size;simp only [World.setCell,Array.size_modify];omega
     ·exact dT (dB HBb.out cR.out) (p:=⟨g,i * 3+2,none⟩) (show b≠g by omega) _
     ·exact dT (dB nY.out cR.out) (p:=⟨g,i * 3+2,none⟩) (show b+1≠g by omega) _
     ·exact Kd.qD (Kd.kR LY.out cR.out) (p:=⟨g,i * 3+2,none⟩) (fun k hk=>show k≠g by have:=hk.2;omega) _
     ·exact Kd.qD (Kd.kR OP.out cR.out) (p:=⟨g,i * 3+2,none⟩) (fun k hk=>show k≠g by have:=hk.2;omega) _
    case measure=>have:=HQ.out;have:=HI.out;omega
   ·have az9:decide ((i:Int)<(fs.length:Int))=false:=decide_eq_false (by omega);have anG:decide (i<fs.length)=false:=decide_eq_false hi;clear hi;have k0:wr.cell? ⟨b,0,none⟩=some (.slice B1 vs.length d1):=aD HBb.out 0;have k1:wr.cell? ⟨b,1,none⟩=some (.slice B2 ls.length d2):=aD HBb.out 1;have k2:wr.cell? ⟨b,2,none⟩=some (.slice (some ⟨g,0,none⟩) fs.length d3):=aD HBb.out 2;have z0:wr.frozen? ⟨b+1,0,none⟩=false:=aT nY.out 0;have z1:wr.frozen? ⟨b+1,1,none⟩=false:=aT nY.out 1;have z2:wr.frozen? ⟨b+1,2,none⟩=false:=aT nY.out 2;have r0:wr.cell? ⟨b+1,0,none⟩=some (.slice none 0 0):=aD nY.out 0;have r1:wr.cell? ⟨b+1,1,none⟩=some (.slice none 0 0):=aD nY.out 1;have r2:wr.cell? ⟨b+1,2,none⟩=some (.slice none 0 0):=aD nY.out 2;go_wp2_with fail
    have RB:=bX (bX (bX nY.out 0 (.slice B1 vs.length d1) rfl) 1 (.slice B2 ls.length d2) rfl) 2 (.slice (some ⟨g,0,none⟩) fs.length d3) rfl;refine Go.bodyPost_ret (results_cell_row rfl _ _ (b+1) 30 #[.slice B1 vs.length d1,.slice B2 ls.length d2,.slice (some ⟨g,0,none⟩) fs.length d3] (0,0) _ rfl (by exact RB) Tryd.underlying30 rfl (by kernel_rfl)) rfl ?_
    obtain ⟨o1,o2⟩:=aa0 (okA:=okA) HBr.out HD.out LY.out OP.out (Kd.N_F HNr.out) akD (ag8 SH.out) (.slice B1 vs.length d1) (.slice B2 ls.length d2) (.slice (some ⟨g,0,none⟩) fs.length d3);try rw [hbw]
    exact ⟨_,rfl,o1,o2⟩
 ·obtain rfl:fs= []:=List.eq_nil_of_length_eq_zero (by omega);have aIX:=aD HG.out 2;clear hx F1 F2 N3 TJ G RR;go_wp2_with fail
  go_loop [19] (fun SM=>SM= .int .i64 0) (fun _=>0)
  case atStart=>rfl
  case round=>
   subst hrel;have HBb:=HG;have nY:=HR;have HBr:=HBZ;have LY:=Z4;have OP:=ahN;have k0:Z.cell? ⟨b,0,none⟩=some (.slice B1 vs.length d1):=aD HBb.out 0;have k1:Z.cell? ⟨b,1,none⟩=some (.slice B2 ls.length d2):=aD HBb.out 1;have k2:Z.cell? ⟨b,2,none⟩=some (.slice B3 ([]:List Fn6).length d3):=aD HBb.out 2;have z0:Z.frozen? ⟨b+1,0,none⟩=false:=aT nY.out 0;have z1:Z.frozen? ⟨b+1,1,none⟩=false:=aT nY.out 1;have z2:Z.frozen? ⟨b+1,2,none⟩=false:=aT nY.out 2;have r0:Z.cell? ⟨b+1,0,none⟩=some (.slice none 0 0):=aD nY.out 0;have r1:Z.cell? ⟨b+1,1,none⟩=some (.slice none 0 0):=aD nY.out 1;have r2:Z.cell? ⟨b+1,2,none⟩=some (.slice none 0 0):=aD nY.out 2;go_wp2_with fail
   have RB:=bX (bX (bX nY.out 0 (.slice B1 vs.length d1) rfl) 1 (.slice B2 ls.length d2) rfl) 2 (.slice B3 ([]:List Fn6).length d3) rfl;refine Go.bodyPost_ret (results_cell_row rfl _ _ (b+1) 30 #[.slice B1 vs.length d1,.slice B2 ls.length d2,.slice B3 ([]:List Fn6).length d3] (0,0) _ rfl (by exact RB) Tryd.underlying30 rfl (by kernel_rfl)) rfl ?_
   obtain ⟨o1,o2⟩:=aa0 (okA:=okA) HBr.out HD.out LY.out OP.out (Kd.N_F SV.out) akD (ag8 SH.out) (.slice B1 vs.length d1) (.slice B2 ls.length d2) (.slice B3 ([]:List Fn6).length d3);try rw [hbw]
   exact ⟨_,rfl,o1,o2⟩
end Go.Proofs.YtkmafndljelopaaDoor.Q
