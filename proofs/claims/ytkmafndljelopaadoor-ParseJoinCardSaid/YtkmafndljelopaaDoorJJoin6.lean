/- ParseJoin's end: six rows are put together, three by three, in any order, and the program that they make is the one that was read. What is known while they are (JS). -/
import Derived.Test.YtkmafndljelopaaDoorJStm
import Derived.Test.YtkmafndljelopaaDoorJTree
import Derived.Test.YtkmafndljelopaaDoorJW
namespace Go.Proofs.YtkmafndljelopaaDoor.Q
open Go.RowKit Go.Proofs.YtkmafndljelopaaDoorW.PrintWords Go.Proofs.YtkmafndljelopaaDoorW.PrintLast Go.Proofs.YtkmafndljelopaaDoorW.PrintMore Go.Proofs.YtkmafndljelopaaDoor.Lx
set_option linter.unusedVariables false
set_option linter.unusedSimpArgs false
def joined6.f (v1 l1:List De6) (f1:List Fn6) (v2 l2:List De6) (f2:List Fn6) (v3 l3:List De6) (f3:List Fn6):Option Bool:=
 if (v1.length≤10000∧l1.length≤10000∧f1.length≤10000∧v2.length≤10000∧l2.length≤10000∧f2.length≤10000∧v3.length≤10000∧l3.length≤10000)∧sameP v3 l3 f3 (([]++v1)++v2) (([]++l1)++l2) (([]++f1)++f2)=true then some true else none
section
variable {α:Type} {d:Kd α} {e B:Nat} {w w1:World} {v:Value} {xs ys:List α}
def Row (d:Kd α) (e B:Nat) (w:World) (v:Value) (xs:List α):Prop:=
 ∃ rows:List (List Value),rows.length=xs.length∧(Kd.raw d.sz).R e w B (fun k=>some k=v.ownBlock) v rows∧ ∀ (j:Nat) (x:α) (c:List Value),xs[j]? =some x→rows[j]? =some c→Kd.FK d w (fun k=>k<B) x c
theorem Row.grown (h:Row d e B w v xs) {row:Option Nat} (hg:w.grownBy w1 row) (hrow: ∀ k,row=some k→B≤k) (hne: ∀ k,row=some k→some k≠v.ownBlock):Row d e B w1 v xs:=by
 obtain ⟨rows,h1,h2,h3⟩:=h;refine ⟨rows,h1,Kd.av9 h2 rfl hg hne,fun j x c hx hc=>Kd.XB (h3 j x c hx hc) hg (fun k hk he=>?_)⟩;have:=hrow k he.symm;omega
theorem Row.alloc (h:Row d e B w v xs) (o:Obj):Row d e B (w.alloc o) v xs:=h.grown (World.grownBy_alloc w o none) (fun k hk=>(by cases hk)) (fun k hk=>(by cases hk))
theorem Row.lt (h:Row d e B w v xs): ∀ k,v.ownBlock=some k→k<w.heap.size:=by
 obtain ⟨rows,h1,h2,h3⟩:=h;exact Kd.R_lt h2
theorem Row.ge (h:Row d e B w v xs): ∀ k,v.ownBlock=some k→B≤k:=by
 obtain ⟨rows,h1,h2,h3⟩:=h;exact Kd.gX h2
theorem Row.typed (h:Row d e B w v xs): ∀ k,v.ownBlock=some k→ ∃ cells,w.heap[k]? =some (.cells cells e (0,0)):=by
 obtain ⟨rows,h1,h2,h3⟩:=h;exact Kd.DY h2
theorem Row.read (h:Row d e B w v xs): ∃ A c,v= .slice A xs.length c∧xs.length≤c∧d.C w A xs.length xs:=by
 obtain ⟨rows,h1,h2,h3⟩:=h;have hN:Kd.N d e w B (fun _=>True) v xs:=⟨fun _ _=>trivial,rows,h1,h2,fun j x c hx hc=>Kd.xV (h3 j x c hx hc) (fun k hk=>⟨trivial,fun he=>by
  have:=Kd.gX h2 k he.symm;omega⟩)⟩
 obtain ⟨A,c,rfl⟩:=Kd.mU hN;obtain ⟨_,h5,h6⟩:=Kd.jE hN;exact ⟨A,c,rfl,h5,h6⟩
theorem Row.empty (hs:0<d.sz) (hB:B≤w.heap.size):Row d e B (w.alloc (.cells #[] e)) (.slice (some ⟨w.heap.size,0,none⟩) 0 0) ([]:List α):=by
 refine ⟨[],rfl,⟨fun k hk=>hk.symm,[],World.ownsRow_lit (base:=B) (e:=e) (size:=d.sz) w #[] 0 hB (by decide) (by simp),Reps.none _ _⟩,fun j x c hx=>by simp at hx⟩
theorem Row.MB {P:Program} {ops:Array Oper} {Q:Exit→Act→World→Prop} {o:Oper} {a:Act} {W Y:World} {Kc:Act→World→Prop} (hw:Region.wanted o (yielded ops a.tmps)=true) (s x:Operand) (t:TypeId) (z:Value) (bytes:Nat)
  (ho:o.op= .call { callee:=.builtin .append,args:=#[s,x],argTypes:=#[t,t] })
  (ht:P.underlying t=some (.slice e)) (hinfo:(P.info? e).map (fun i=>(i.zero,i.size,i.bytes))=some (some z,d.sz,bytes)) (hz:z.cells.size=d.sz) (kP:0<d.sz) (kD:0<bytes)
  {A:Option Addr} {m c:Nat} (hs:a.eval s=v) (hx:a.eval x= .slice A m c)
  (HO:Row d e Y.heap.size W v xs) (HR:Kd.F d Y (fun k=>k<Y.heap.size) A m ys) (HB:Below Y.heap.size Y W) (hl:(xs.length+m) * bytes≤140737488355328)
  (h: ∀ v1 w1,Row d e Y.heap.size w1 v1 (xs++ys)→Below Y.heap.size Y w1→W.grownBy w1 v.ownBlock→(v1.ownBlock=v.ownBlock∨ ∃ b,v1.ownBlock=some b∧W.heap.size≤b)→Kc (a.put o.dst v1) w1):
  if Region.wanted o (yielded ops a.tmps)=true then Oper.wp P o a W Kc Q else Kc (a.put o.dst undef) W:=by
 have hge:=HO.ge;obtain ⟨rows,hlr,hR,hf⟩:=HO;have HR':Kd.F d W (fun k=>k<Y.heap.size) A m ys:=Kd.kR HR HB;obtain ⟨news,hnl,hnr,hnf⟩:=Kd.akU (Kd.akY HR') (fun y c hk=>⟨d.K_len (Kd.tK hk),d.K_one (Kd.tK hk)⟩);refine Kd.akS (Kd.raw d.sz) Y.heap.size hw s x t e z bytes ho ht hinfo hz kP kD v rows news A m c (fun _=>True) (fun _=>False) hs hx (Kd.V9 hR) hnr (fun _ _ hk=>hk) (fun _ hk=>hk.elim) (fun _ _=>trivial) HB HB.size (by rw [hlr];exact hl) ?_
 intro v1 w1 hr hb hg hat;refine h v1 w1 ⟨rows++news,by simp [hlr,hnl],Kd.MX hr,fun j x c hx hc=>?_⟩ hb hg hat;have hok: ∀ k,k<Y.heap.size→some k≠v.ownBlock:=fun k hk he=>by
  have:=hge k he.symm;omega
 by_cases hj:j<xs.length
 ·rw [List.getElem?_append_left hj] at hx;rw [List.getElem?_append_left (by omega)] at hc;exact Kd.XB (hf j x c hx hc) hg hok
 ·rw [List.getElem?_append_right (by omega)] at hx hc;rw [hlr] at hc;exact Kd.XB (hnf _ x c hx hc) hg hok
end
structure JS (Y w:World) (c1 c2:Option (Value×List De6)) (c3:Option (Value×List Fn6)) (bx:Option Nat):Prop where
 bel:Below Y.heap.size Y w
 r1: ∀ v x,c1=some (v,x)→Row k59 59 Y.heap.size w v x
 r2: ∀ v x,c2=some (v,x)→Row k59 59 Y.heap.size w v x
 r3: ∀ v x,c3=some (v,x)→Row k46 46 Y.heap.size w v x
 hb: ∀ b,bx=some b→w.heap[b]? =some (.cells #[.slice none 0 0,.slice none 0 0,.slice none 0 0] 30 (0,0))∧Y.heap.size≤b
 ne: ∀ v x u y,c1=some (v,x)→c2=some (u,y)→ ∀ k,v.ownBlock=some k→u.ownBlock≠some k
section
variable {Y w:World} {c1 c2:Option (Value×List De6)} {c3:Option (Value×List Fn6)} {bx:Option Nat}
theorem JS.start (Y:World):JS Y Y.drew none none none none:=
 ⟨aJ (Below.refl _ Y),fun _ _ h=>(by cases h),fun _ _ h=>(by cases h),fun _ _ h=>(by cases h),fun _ h=>(by cases h),fun _ _ _ _ h=>(by cases h)⟩
theorem JS.cell (h:JS Y w c1 c2 c3 bx) {p:Addr} {u:Value} (hc:Y.cell? p=some u):w.cell? p=some u:=(h.bel.cell (World.block_lt_of_cell? Y _ hc)).trans hc
theorem JS.alloc (h:JS Y w c1 c2 c3 bx) (o:Obj):JS Y (w.alloc o) c1 c2 c3 bx:=
 ⟨aI h.bel o,fun v x e=>(h.r1 v x e).alloc o,fun v x e=>(h.r2 v x e).alloc o,fun v x e=>(h.r3 v x e).alloc o,fun b e=>⟨aQ (h.hb b e).1 o,(h.hb b e).2⟩,h.ne⟩
theorem JS.e1 (h:JS Y w none c2 c3 bx):JS Y (w.alloc (.cells #[] 59)) (some (.slice (some ⟨w.heap.size,0,none⟩) 0 0,[])) c2 c3 bx:=by
 have h':=h.alloc (.cells #[] 59);refine ⟨h'.bel,fun v x e=>?_,h'.r2,h'.r3,h'.hb,fun v x u y e1 e2 k hk hu=>?_⟩
 ·injection e with e
  injection e with e1 e2
  subst e1 e2;exact Row.empty (by decide) h.bel.size
 ·injection e1 with e1
  injection e1 with e3 e4
  subst e3;have hk':w.heap.size=k:=by simpa [Value.ownBlock] using hk
  have:=(h.r2 u y e2).lt k hu;omega
theorem JS.e2 (h:JS Y w c1 none c3 bx):JS Y (w.alloc (.cells #[] 59)) c1 (some (.slice (some ⟨w.heap.size,0,none⟩) 0 0,[])) c3 bx:=by
 have h':=h.alloc (.cells #[] 59);refine ⟨h'.bel,h'.r1,fun v x e=>?_,h'.r3,h'.hb,fun v x u y e1 e2 k hk hu=>?_⟩
 ·injection e with e
  injection e with e1 e2
  subst e1 e2;exact Row.empty (by decide) h.bel.size
 ·injection e2 with e2
  injection e2 with e3 e4
  subst e3;have hk':w.heap.size=k:=by simpa [Value.ownBlock] using hu
  have:=(h.r1 v x e1).lt k hk;omega
theorem JS.e3 (h:JS Y w c1 c2 none bx):JS Y (w.alloc (.cells #[] 46)) c1 c2 (some (.slice (some ⟨w.heap.size,0,none⟩) 0 0,[])) bx:=by
 have h':=h.alloc (.cells #[] 46);refine ⟨h'.bel,h'.r1,h'.r2,fun v x e=>?_,h'.hb,h'.ne⟩;injection e with e
 injection e with e1 e2
 subst e1 e2;exact Row.empty (by decide) h.bel.size
theorem JS.box (h:JS Y w c1 c2 c3 none):JS Y (w.alloc (.cells #[.slice none 0 0,.slice none 0 0,.slice none 0 0] 30)) c1 c2 c3 (some w.heap.size):=by
 have h':=h.alloc (.cells #[.slice none 0 0,.slice none 0 0,.slice none 0 0] 30);refine ⟨h'.bel,h'.r1,h'.r2,h'.r3,fun b e=>?_,h'.ne⟩;injection e with e
 subst e;exact ⟨gC w _,h.bel.size⟩
theorem CJ {w:World} {k:Nat} {a b:Array Value} {s t:Nat} (h1:w.heap[k]? =some (.cells a s (0,0))) (h2:w.heap[k]? =some (.cells b t (0,0))) (ht:s≠t):False:=by
 rw [h1] at h2;injection h2 with h2
 injection h2 with _ h2
 exact ht h2
theorem JS.a1 {v v1:Value} {x x1:List De6} {w1:World} (h:JS Y w (some (v,x)) c2 c3 bx) (hr:Row k59 59 Y.heap.size w1 v1 x1) (hb:Below Y.heap.size Y w1) (hg:w.grownBy w1 v.ownBlock) (hat:v1.ownBlock=v.ownBlock∨ ∃ b,v1.ownBlock=some b∧w.heap.size≤b):
  JS Y w1 (some (v1,x1)) c2 c3 bx:=by
 have h1:=h.r1 v x rfl;refine ⟨hb,fun u y e=>?_,fun u y e=>?_,fun u y e=>?_,fun b e=>?_,fun u y u2 y2 e1 e2 k hk hu=>?_⟩
 ·injection e with e
  injection e with e1 e2
  subst e1 e2;exact hr
 ·exact (h.r2 u y e).grown hg h1.ge (fun k hk hu=>h.ne v x u y rfl e k hk hu.symm)
 ·refine (h.r3 u y e).grown hg h1.ge (fun k hk hu=>?_);obtain ⟨_,q1⟩:=h1.typed k hk;obtain ⟨_,q2⟩:=(h.r3 u y e).typed k hu.symm;exact CJ q1 q2 (by decide)
 ·obtain ⟨q1,q2⟩:=h.hb b e;refine ⟨iY q1 hg (fun hu=>?_),q2⟩;obtain ⟨_,q3⟩:=h1.typed b hu.symm;exact CJ q1 q3 (by decide)
 ·injection e1 with e1
  injection e1 with e3 e4
  subst e3;rcases hat with q|⟨b,q,hle⟩
  ·exact h.ne v x u2 y2 rfl e2 k (q ▸ hk) hu
  ·rw [q] at hk;injection hk with hk
   have:=(h.r2 u2 y2 e2).lt k hu;omega
theorem JS.a2 {v v1:Value} {x x1:List De6} {w1:World} (h:JS Y w c1 (some (v,x)) c3 bx) (hr:Row k59 59 Y.heap.size w1 v1 x1) (hb:Below Y.heap.size Y w1) (hg:w.grownBy w1 v.ownBlock) (hat:v1.ownBlock=v.ownBlock∨ ∃ b,v1.ownBlock=some b∧w.heap.size≤b):
  JS Y w1 c1 (some (v1,x1)) c3 bx:=by
 have h1:=h.r2 v x rfl;refine ⟨hb,fun u y e=>?_,fun u y e=>?_,fun u y e=>?_,fun b e=>?_,fun u2 y2 u y e2 e1 k hk hu=>?_⟩;·exact (h.r1 u y e).grown hg h1.ge (fun k hk hu=>h.ne u y v x e rfl k hu.symm hk)
 ·injection e with e
  injection e with e1 e2
  subst e1 e2;exact hr
 ·refine (h.r3 u y e).grown hg h1.ge (fun k hk hu=>?_);obtain ⟨_,q1⟩:=h1.typed k hk;obtain ⟨_,q2⟩:=(h.r3 u y e).typed k hu.symm;exact CJ q1 q2 (by decide)
 ·obtain ⟨q1,q2⟩:=h.hb b e;refine ⟨iY q1 hg (fun hu=>?_),q2⟩;obtain ⟨_,q3⟩:=h1.typed b hu.symm;exact CJ q1 q3 (by decide)
 ·injection e1 with e1
  injection e1 with e3 e4
  subst e3;rcases hat with q|⟨b,q,hle⟩
  ·exact h.ne u2 y2 v x e2 rfl k hk (q ▸ hu)
  ·rw [q] at hu;injection hu with hu
   have:=(h.r1 u2 y2 e2).lt k hk;omega
theorem JS.a3 {v v1:Value} {x x1:List Fn6} {w1:World} (h:JS Y w c1 c2 (some (v,x)) bx) (hr:Row k46 46 Y.heap.size w1 v1 x1) (hb:Below Y.heap.size Y w1) (hg:w.grownBy w1 v.ownBlock):JS Y w1 c1 c2 (some (v1,x1)) bx:=by
 have h1:=h.r3 v x rfl;have far: ∀ (u:Value) (y:List De6),Row k59 59 Y.heap.size w u y→Row k59 59 Y.heap.size w1 u y:=fun u y hu=>hu.grown hg h1.ge (fun k hk he=>by
  obtain ⟨_,q1⟩:=h1.typed k hk;obtain ⟨_,q2⟩:=hu.typed k he.symm;exact CJ q1 q2 (by decide))
 refine ⟨hb,fun u y e=>far u y (h.r1 u y e),fun u y e=>far u y (h.r2 u y e),fun u y e=>?_,fun b e=>?_,h.ne⟩
 ·injection e with e
  injection e with e1 e2
  subst e1 e2;exact hr
 ·obtain ⟨q1,q2⟩:=h.hb b e;refine ⟨iY q1 hg (fun hu=>?_),q2⟩;obtain ⟨_,q3⟩:=h1.typed b hu.symm;exact CJ q1 q3 (by decide)
theorem QU (w:World) (a:Addr) (u:Value):w.grownBy (w.setCell a u) (some a.block):=
 ⟨rfl,rfl,rfl,by simp [World.setCell],fun i hi hne=>by
  have:a.block≠i:=fun e=>hne (by rw [e])
  simp only [World.setCell,Array.getElem?_modify,if_neg this]⟩
theorem JS.stored {v1 v2 v3:Value} {x1 x2:List De6} {x3:List Fn6} {b:Nat} (h:JS Y w (some (v1,x1)) (some (v2,x2)) (some (v3,x3)) (some b)) (u0 u1 u2:Value):
  ∃ w',w'=((w.setCell ⟨b,0,none⟩ u0).setCell ⟨b,1,none⟩ u1).setCell ⟨b,2,none⟩ u2∧Below Y.heap.size Y w'∧Row k59 59 Y.heap.size w' v1 x1∧Row k59 59 Y.heap.size w' v2 x2∧Row k46 46 Y.heap.size w' v3 x3∧
   w'.heap[b]? =some (.cells #[u0,u1,u2] 30 (0,0)):=by
 obtain ⟨hb,hge⟩:=h.hb b rfl;have hg:w.grownBy (((w.setCell ⟨b,0,none⟩ u0).setCell ⟨b,1,none⟩ u1).setCell ⟨b,2,none⟩ u2) (some b):=((QU w ⟨b,0,none⟩ u0).trans (QU _ ⟨b,1,none⟩ u1)).trans (QU _ ⟨b,2,none⟩ u2);have hrow: ∀ k,some b=some k→Y.heap.size≤k:=fun k e=>by injection e with e;omega
 have far: ∀ {α:Type} {d:Kd α} {e:Nat} {v:Value} {xs:List α},Row d e Y.heap.size w v xs→e≠30→ ∀ k,some b=some k→some k≠v.ownBlock:=fun hr hne k e hk=>by
  injection e with e
  subst e;obtain ⟨_,q⟩:=hr.typed b hk.symm;exact CJ q hb hne
 refine ⟨_,rfl,atG h.bel (some b) h.bel.size hg hrow,(h.r1 v1 x1 rfl).grown hg hrow (far (h.r1 v1 x1 rfl) (by decide)),(h.r2 v2 x2 rfl).grown hg hrow (far (h.r2 v2 x2 rfl) (by decide)),(h.r3 v3 x3 rfl).grown hg hrow (far (h.r3 v3 x3 rfl) (by decide)),?_⟩;exact bX (cs:=#[u0,u1,.slice none 0 0]) (bX (cs:=#[u0,.slice none 0 0,.slice none 0 0]) (bX hb 0 u0 rfl) 1 u1 rfl) 2 u2 rfl
theorem DN {α:Type} {d:Kd α} {e base:Nat} {ok:Nat→Prop} {A:Option Addr} {n c:Nat} {xs:List α} (h:Kd.V d e Y base ok (.slice A n c) xs):Kd.F d Y (fun k=>k<Y.heap.size) A n xs:=Kd.oP (Kd.V_F (e:=e) (base:=base) (Kd.ao5 h)) (fun k hk=>hk.2)
variable {ops:Array Oper} {Q:Exit→Act→World→Prop} {o:Oper} {a:Act} {Kc:Act→World→Prop} {v:Value} {A:Option Addr} {m c:Nat}
theorem app1 {xs ys:List De6} (hw:Region.wanted o (yielded ops a.tmps)=true) (s x:Operand) (ho:o.op= .call { callee:= .builtin .append,args:= #[s,x],argTypes:= #[27,27] }) (hs:a.eval s=v) (hx:a.eval x= .slice A m c)
  (hJ:JS Y w (some (v,xs)) c2 c3 bx) (HR:Kd.F k59 Y (fun k=>k<Y.heap.size) A m ys) (hl:xs.length+m≤1000000) (h: ∀ v1 w1,JS Y w1 (some (v1,xs++ys)) c2 c3 bx→Kc (a.put o.dst v1) w1):
  if Region.wanted o (yielded ops a.tmps)=true then Oper.wp Tryd.prog o a w Kc Q else Kc (a.put o.dst undef) w:=by
 refine Row.MB hw s x 27 (.agg #[.string ⟨#[]⟩,.int .i64 0]) 24 ho Tryd.underlying27 (by kernel_rfl) rfl (by decide) (by decide) hs hx (hJ.r1 v xs rfl) HR hJ.bel (by omega) ?_
 intro v1 w1 hr hb hg hat;exact h v1 w1 (hJ.a1 hr hb hg hat)
theorem app2 {xs ys:List De6} (hw:Region.wanted o (yielded ops a.tmps)=true) (s x:Operand) (ho:o.op= .call { callee:= .builtin .append,args:= #[s,x],argTypes:= #[27,27] }) (hs:a.eval s=v) (hx:a.eval x= .slice A m c)
  (hJ:JS Y w c1 (some (v,xs)) c3 bx) (HR:Kd.F k59 Y (fun k=>k<Y.heap.size) A m ys) (hl:xs.length+m≤1000000) (h: ∀ v1 w1,JS Y w1 c1 (some (v1,xs++ys)) c3 bx→Kc (a.put o.dst v1) w1):
  if Region.wanted o (yielded ops a.tmps)=true then Oper.wp Tryd.prog o a w Kc Q else Kc (a.put o.dst undef) w:=by
 refine Row.MB hw s x 27 (.agg #[.string ⟨#[]⟩,.int .i64 0]) 24 ho Tryd.underlying27 (by kernel_rfl) rfl (by decide) (by decide) hs hx (hJ.r2 v xs rfl) HR hJ.bel (by omega) ?_
 intro v1 w1 hr hb hg hat;exact h v1 w1 (hJ.a2 hr hb hg hat)
theorem app3 {xs ys:List Fn6} (hw:Region.wanted o (yielded ops a.tmps)=true) (s x:Operand) (ho:o.op= .call { callee:= .builtin .append,args:= #[s,x],argTypes:= #[28,28] }) (hs:a.eval s=v) (hx:a.eval x= .slice A m c)
  (hJ:JS Y w c1 c2 (some (v,xs)) bx) (HR:Kd.F k46 Y (fun k=>k<Y.heap.size) A m ys) (hl:xs.length+m≤1000000) (h: ∀ v1 w1,JS Y w1 c1 c2 (some (v1,xs++ys)) bx→Kc (a.put o.dst v1) w1):
  if Region.wanted o (yielded ops a.tmps)=true then Oper.wp Tryd.prog o a w Kc Q else Kc (a.put o.dst undef) w:=by
 refine Row.MB hw s x 28 (.agg #[.string ⟨#[]⟩,.int .i64 0,.slice none 0 0]) 48 ho Tryd.underlying28 (by kernel_rfl) rfl (by decide) (by decide) hs hx (hJ.r3 v xs rfl) HR hJ.bel (by omega) ?_
 intro v1 w1 hr hb hg hat;exact h v1 w1 (hJ.a3 hr hb hg)
end
theorem arT {v1 l1 v2 l2 v3 l3:List De6} {f1 f2 f3:List Fn6} {r:Bool} (h:joined6.f v1 l1 f1 v2 l2 f2 v3 l3 f3=some r):
  (v1.length≤10000∧l1.length≤10000∧f1.length≤10000∧v2.length≤10000∧l2.length≤10000∧f2.length≤10000)∧r=true∧KX.f v3 l3 f3 (([]++v1)++v2) (([]++l1)++l2) (([]++f1)++f2)=some true∧D9.f v3 l3 f3 (([]++v1)++v2) (([]++l1)++l2) (([]++f1)++f2)=some true:=by
 unfold joined6.f at h
 split at h
 ·rename_i hc
  obtain ⟨⟨a,b,c,d,e,f,g,i⟩,hs⟩:=hc;injection h with h
  refine ⟨⟨a,b,c,d,e,f⟩,h.symm,by unfold KX.f;rw [hs],?_⟩;unfold D9.f
  rw [if_pos ⟨by omega,by omega⟩,hs]
 ·cases h
end Go.Proofs.YtkmafndljelopaaDoor.Q
