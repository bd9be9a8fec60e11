/- Par1: put together by wip/merge.py. -/
import Derived.Test.YtkmafndljelopaaDoorUQ1
import Derived.Test.YtkmafndljelopaaDoorULexName
import Derived.Test.YtkmafndljelopaaDoorUGL
import Derived.Recover
import Derived.Defers
import Derived.WalkSpells
import Derived.WalkLawsBesides
import Derived.Test.YtkmafndljelopaaDoorUEv
import Derived.Lib.OthersKept
import Derived.Deep.DeepCutAuto
import Derived.Deep.CutBlock
import Derived.Deep.RegionHeld3
import Derived.Deep.LoopGhost
namespace Go.Proofs.YtkmafndljelopaaDoor.Q
open Go.RowKit Go.Proofs.YtkmafndljelopaaDoorW.PrintWords Go.Proofs.YtkmafndljelopaaDoorW.PrintLast Go.Proofs.YtkmafndljelopaaDoorW.PrintMore Go.Proofs.YtkmafndljelopaaDoor.Lx
set_option linter.unusedVariables false
set_option linter.unusedSimpArgs false
abbrev Tok6:=S108
def wrongP (at_ er:Int):List PanicEntry:= [{ v:= .iface 65 (.agg #[.int .i64 at_,.int .i64 er]),recovered:=false }]
def nx (l:List Tok6) (e:Int):Tok6:=l.headD ⟨0,e,⟨#[]⟩⟩
def TokAt (w0:World) (A:Option Addr):Prop:= ∀ a,A=some a→ ∃ cs,w0.heap[a.block]? =some (.cells cs 108 (0,0))
structure Ps (w0 w:World) (g:Nat) (l:List Tok6) (e:Int):Prop where
 blk: ∃ A c,w.heap[g]? =some (.cells #[.slice A l.length c,.int .i64 e] 69 (0,0))∧l.length≤c∧Kd.C k108 w0 A l.length l∧TokAt w0 A
 ge:w0.heap.size≤g
 bel:Below w0.heap.size w0 w
theorem Ps.below {w0 w w':World} {g:Nat} {l:List Tok6} {e:Int} (h:Ps w0 w g l e) (hb:Below w.heap.size w w'):Ps w0 w' g l e:=by
 obtain ⟨A,c,h1,h2,h3⟩:=h.blk;exact ⟨⟨A,c,blk_below h1 hb,h2,h3⟩,h.ge,below_step h.bel hb⟩
theorem Ps.lt {w0 w:World} {g:Nat} {l:List Tok6} {e:Int} (h:Ps w0 w g l e):g<w.heap.size:=by
 obtain ⟨A,c,h1,h2,h3⟩:=h.blk;exact blk_lt h1
theorem add_zero' (a:Addr):a.add 0=a:=by unfold Addr.add;split <;> simp_all
set_option maxHeartbeats 400000 in
theorem next_calls {w0 w:World} {g:Nat} {l:List Tok6} {e:Int} (h:Ps w0 w g l e):
  Calls Tryd.prog 61 #[.pointer (some ⟨g,0,none⟩)] w fun E w'=>E= .returned (.agg #[.int .i64 (nx l e).f0,.int .i64 (nx l e).f1,.string (nx l e).f2])∧Below w.heap.size w w':=by
 have hu:=Tryd.underlying108;obtain ⟨A,c,h1,h2,h3⟩:=h.blk;have hlt:=h.lt;cases l with
 |nil=>
  have k0:(w.alloc (.cells #[.int .i64 0,.int .i64 0,.string ⟨#[]⟩] 108)).cell? ⟨g,0,none⟩=some (.slice A 0 c):=blk_cell (blk_alloc h1 _) 0;have k1:(w.alloc (.cells #[.int .i64 0,.int .i64 0,.string ⟨#[]⟩] 108)).cell? ⟨g,1,none⟩=some (.int .i64 e):=blk_cell (blk_alloc h1 _) 1;have HX:=Aside0.mk (below_alloc (Below.refl w.heap.size w) (.cells #[.int .i64 0,.int .i64 0,.string ⟨#[]⟩] 108));clear h h1 h2 h3;go_enter Tryd.func61,Tryd.ntmps61
  go_wp2_with fail
  refine Go.bodyPost_ret (results_cell_row rfl _ _ w.heap.size 108 #[.int .i64 0,.int .i64 e,.string ⟨#[]⟩] (0,0) _ rfl (by exact blk_new w _) Tryd.underlying108 rfl (by kernel_rfl)) rfl ?_
  exact ⟨rfl,below_alloc (Below.refl w.heap.size w) _⟩
 |cons t r=>
  obtain ⟨ad,rfl,t0,t1,t2⟩:=at_T108 (Kd.C_below h3.1 h.bel) 0 (by decide) (by simp);have T0:w.cell? ad=some (.int .i64 t.f0):=by simpa [rd_T108,add_zero'] using t0
  have T1:w.cell? ⟨ad.block,ad.off+1,none⟩=some (.int .i64 t.f1):=by simpa [rd_T108,add_zero'] using t1
  have T2:w.cell? ⟨ad.block,ad.off+2,none⟩=some (.string t.f2):=by simpa [rd_T108,add_zero'] using t2
  clear t0 t1 t2;have hb:=below_alloc (Below.refl w.heap.size w) (.cells #[.int .i64 0,.int .i64 0,.string ⟨#[]⟩] 108);have k0:(w.alloc (.cells #[.int .i64 0,.int .i64 0,.string ⟨#[]⟩] 108)).cell? ⟨g,0,none⟩=some (.slice (some ad) (r.length+1) c):=blk_cell (blk_alloc h1 _) 0;have U0:=(hb.cell (World.block_lt_of_cell? w _ T0)).trans T0;have U1:=(hb.cell (World.block_lt_of_cell? w _ T1)).trans T1;have U2:=(hb.cell (World.block_lt_of_cell? w _ T2)).trans T2;have U0':(w.alloc (.cells #[.int .i64 0,.int .i64 0,.string ⟨#[]⟩] 108)).cell? (ad.add 0)=some (.int .i64 t.f0):=by rw [add_zero'];exact U0
  have q0:decide (0<r.length+1)=true:=decide_eq_true (by omega);have q1:decide ((0:Int)<((r.length+1:Nat):Int))=true:=decide_eq_true (by omega);have q2:(((r.length+1:Nat):Int)==0)=false:=beq_eq_false_iff_ne.mpr (by omega);have q3:(((r.length:Nat):Int)+1==0)=false:=beq_eq_false_iff_ne.mpr (by omega);clear h h1 h2 h3 hb T0 T1 T2;go_enter Tryd.func61,Tryd.ntmps61
  go_wp2_with fail
  refine Go.bodyPost_ret (results_cell_row rfl _ _ w.heap.size 108 #[.int .i64 t.f0,.int .i64 t.f1,.string t.f2] (0,0) _ rfl (by exact blk_new w _) Tryd.underlying108 rfl (by kernel_rfl)) rfl ?_
  exact ⟨rfl,below_alloc (Below.refl w.heap.size w) _⟩
set_option maxRecDepth 20000 in
theorem fail_calls {w0 w:World} {g:Nat} {l:List Tok6} {e:Int} (h:Ps w0 w g l e) (er:Int):
  Calls Tryd.prog 65 #[.pointer (some ⟨g,0,none⟩),.int .i64 er] w fun E w'=>E= .panicked (wrongP (nx l e).f1 er)∧Below w.heap.size w w':=by
 have hu:=Tryd.underlying108;have hu2:=Tryd.underlying65;have H:=Aside0.mk (next_calls h);generalize nx l e=n at H ⊢;have hf: ∀ W,(Instr.field 108 (.agg #[.int .i64 n.f0,.int .i64 n.f1,.string n.f2]) 1).run Tryd.prog W= .ok (.int .i64 n.f1) W:=fun W=>by rfl
 clear h;go_enter Tryd.func65,Tryd.ntmps65
 go_wp2_with (go_at_call 61;refine H.out.mono ?_;rintro E w' ⟨rfl,hb⟩)
 exact ⟨rfl,rfl,hb⟩
theorem add_pos' (a:Addr) (n:Nat) (h:0<n):a.add n=⟨a.block,a.off+n,none⟩:=by unfold Addr.add;split <;> simp_all
theorem take_end {w0 w Z:World} {g b:Nat} {r:List Tok6} {e:Int} {A:Option Addr} {c:Nat} {x0 x1 x2:Value} (hb:b=w.heap.size) (hne:b≠g)
  (hg:Z.heap[g]? =some (.cells #[.slice A r.length c,.int .i64 e] 69 (0,0))) (hc:r.length≤c) (hC:Kd.C k108 w0 A r.length r∧TokAt w0 A) (hge:w0.heap.size≤g) (hw:w0.heap.size≤w.heap.size)
  (hn:Z.heap[b]? =some (.cells #[.int .i64 0,.int .i64 0,.string ⟨#[]⟩] 108 (0,0))) (hk:KeepBut w Z g none) (hB:Below w0.heap.size w0 Z):
  Ps w0 (((Z.setCell ⟨b,0,none⟩ x0).setCell ⟨b,1,none⟩ x1).setCell ⟨b,2,none⟩ x2) g r e∧KeepBut w (((Z.setCell ⟨b,0,none⟩ x0).setCell ⟨b,1,none⟩ x1).setCell ⟨b,2,none⟩ x2) g none∧
   (((Z.setCell ⟨b,0,none⟩ x0).setCell ⟨b,1,none⟩ x1).setCell ⟨b,2,none⟩ x2).heap[b]? =some (.cells #[x0,x1,x2] 108 (0,0)):=by
 subst hb;have g1:=blk_far (blk_far (blk_far hg (p:=⟨w.heap.size,0,none⟩) hne.symm x0) (p:=⟨w.heap.size,1,none⟩) hne.symm x1) (p:=⟨w.heap.size,2,none⟩) hne.symm x2;have n1:=blk_put (blk_put (blk_put hn 0 x0 rfl) 1 x1 rfl) 2 x2 rfl;have k1:=keep_far (keep_far (keep_far hk (p:=⟨w.heap.size,0,none⟩) (Nat.le_refl _) x0) (p:=⟨w.heap.size,1,none⟩) (Nat.le_refl _) x1) (p:=⟨w.heap.size,2,none⟩) (Nat.le_refl _) x2;have b1:=Below.setCell (Below.setCell (Below.setCell hB (p:=⟨w.heap.size,0,none⟩) hw x0) (p:=⟨w.heap.size,1,none⟩) hw x1) (p:=⟨w.heap.size,2,none⟩) hw x2;exact ⟨⟨⟨A,c,g1,hc,hC⟩,hge,b1⟩,k1,n1⟩
set_option maxRecDepth 20000 in
set_option maxHeartbeats 400000 in
theorem take_calls {w0 w:World} {g:Nat} {t:Tok6} {r:List Tok6} {e:Int} (h:Ps w0 w g (t::r) e) (ht:t.f0≠0):
  Calls Tryd.prog 62 #[.pointer (some ⟨g,0,none⟩)] w fun E w'=>E= .returned (.agg #[.int .i64 t.f0,.int .i64 t.f1,.string t.f2])∧Ps w0 w' g r e∧KeepBut w w' g none:=by
 have hu:=Tryd.underlying108;have q0:(t.f0==0)=false:=beq_eq_false_iff_ne.mpr ht;have hb1:=below_alloc (Below.refl w.heap.size w) (.cells #[.int .i64 0,.int .i64 0,.string ⟨#[]⟩] 108);have h1:=h.below hb1;have HN:Aside0 (Calls Tryd.prog 61 #[.pointer (some ⟨g,0,none⟩)] (w.alloc (.cells #[.int .i64 0,.int .i64 0,.string ⟨#[]⟩] 108)) fun E w'=>E= .returned (.agg #[.int .i64 t.f0,.int .i64 t.f1,.string t.f2])∧Below (w.alloc (.cells #[.int .i64 0,.int .i64 0,.string ⟨#[]⟩] 108)).heap.size (w.alloc (.cells #[.int .i64 0,.int .i64 0,.string ⟨#[]⟩] 108)) w'):=Aside0.mk (next_calls h1);have hn2:=blk_new w (.cells #[.int .i64 0,.int .i64 0,.string ⟨#[]⟩] 108);have HB1:=Aside0.mk hb1;have hlt:=h.lt;obtain ⟨A,c,h2,hlc,hC⟩:=h.blk;have hg2:=blk_alloc h2 (.cells #[.int .i64 0,.int .i64 0,.string ⟨#[]⟩] 108);clear hb1 h1 h2;go_enter Tryd.func62,Tryd.ntmps62
 go_upto_region 1 with fail
 have HN':=HN.out;generalize w.alloc (.cells #[.int .i64 0,.int .i64 0,.string ⟨#[]⟩] 108)=X at HN' hn2 HB1 hg2 ⊢;go_wp2_with fail
 refine HN'.mono ?_
 rintro E w2 ⟨rfl,hb2⟩
 have HB2:=Aside0.mk (below_step HB1.out hb2);have hg3:=blk_below hg2 hb2;have hn3:=blk_below hn2 hb2;clear HN HN' hb2 hg2 hn2 HB1;have hgY:=blk_alloc hg3 (.cells #[.int .i64 t.f0,.int .i64 t.f1,.string t.f2] 108);have hnY:=blk_alloc hn3 (.cells #[.int .i64 t.f0,.int .i64 t.f1,.string t.f2] 108);have htY:=blk_new w2 (.cells #[.int .i64 t.f0,.int .i64 t.f1,.string t.f2] 108);have HBY:=Aside0.mk (below_alloc HB2.out (.cells #[.int .i64 t.f0,.int .i64 t.f1,.string t.f2] 108));have hlt2:w.heap.size≤w2.heap.size:=below_size HB2.out;go_upto_region 2 with fail
 generalize w2.alloc (.cells #[.int .i64 t.f0,.int .i64 t.f1,.string t.f2] 108)=Y at hgY hnY htY HBY ⊢;have hne1:w.heap.size≠g:=by omega
 have hne2:w2.heap.size≠g:=by omega
 have hCd:=Aside0.mk (Kd.C_drop (m:=1) hC.1 (by simp) hlc);obtain ⟨ad,rfl,-⟩:=at_T108 hC.1 0 (by decide) (by simp);have HTY':=Aside0.mk hC.2;have k0:=blk_cell hgY 0;have kf:=blk_frozen hgY 0;have b0:=blk_cell htY 0;have HGY:=Aside0.mk hgY;have HNY:=Aside0.mk hnY;have HTY:=Aside0.mk htY;have HLC:=Aside0.mk hlc;have q1:decide ((1:Int)≤((r.length+1:Nat):Int))=true:=decide_eq_true (by omega);have q2:decide (1≤r.length+1)=true:=decide_eq_true (by omega);have q3: ¬ (r.length+1<1):=by omega
 clear hg3 hn3 hgY hnY htY hC hlc;go_upto_region 4 with fail
 have KB: ∀ v',KeepBut w (Y.setCell ⟨g,0,none⟩ v') g none:=fun v'=>KeepBut.set_ (KeepBut.of_below HBY.out g none) 0 v'
 have B0: ∀ v',Below w0.heap.size w0 (Y.setCell ⟨g,0,none⟩ v'):=fun v'=>Below.setCell (below_step h.bel HBY.out) (p:=⟨g,0,none⟩) h.ge v'
 have KBA:=Aside0.mk KB;have B0A:=Aside0.mk B0;have GE:=Aside0.mk (below_size h.bel);have GE2:=Aside0.mk h.ge;clear KB B0 h;by_cases hc1:c=1
 ·subst hc1;go_upto_region 5 with fail
  have hg4:=Aside0.mk (blk_put HGY.out 0 (.slice (some ad) r.length 0) rfl);have hn4:=Aside0.mk (blk_far HNY.out hne1 (.slice (some ad) r.length 0) (p:=⟨g,0,none⟩));have ht4:=blk_far HTY.out hne2 (.slice (some ad) r.length 0) (p:=⟨g,0,none⟩);have KB4:=Aside0.mk (KBA.out (.slice (some ad) r.length 0));have B4:=Aside0.mk (B0A.out (.slice (some ad) r.length 0));have hC4:Aside0 (Kd.C k108 w0 (some ad) r.length r∧TokAt w0 (some ad)):=Aside0.mk ⟨by have h_:=hCd.out;rw [if_pos rfl] at h_;exact h_,HTY'.out⟩;have hc4:Aside0 (r.length≤0):=Aside0.mk (by have h_:=HLC.out;rw [List.length_cons] at h_;omega);generalize Y.setCell ⟨g,0,none⟩ (.slice (some ad) r.length 0)=Z at hg4 hn4 ht4 KB4 B4 ⊢;have c0:=blk_cell ht4 0;have c1:=blk_cell ht4 1;have c2:=blk_cell ht4 2;have d0:=blk_cell hn4.out 0;have d1:=blk_cell hn4.out 1;have d2:=blk_cell hn4.out 2;have e0:=blk_frozen hn4.out 0;have e1:=blk_frozen hn4.out 1;have e2:=blk_frozen hn4.out 2;clear k0 kf b0 ht4;go_wp2_with fail
  obtain ⟨r1,r2,r3⟩:=take_end (x0:=.int .i64 t.f0) (x1:=.int .i64 t.f1) (x2:=.string t.f2) rfl hne1 hg4.out hc4.out hC4.out GE2.out GE.out hn4.out KB4.out B4.out;refine Go.bodyPost_ret (results_cell_row rfl _ _ w.heap.size 108 #[.int .i64 t.f0,.int .i64 t.f1,.string t.f2] (0,0) _ rfl (by exact r3) Tryd.underlying108 rfl (by kernel_rfl)) rfl ?_
  exact ⟨rfl,r1,r2⟩
 ·go_upto_region 5 with fail
  have hg4:=Aside0.mk (blk_put HGY.out 0 (.slice (some ⟨ad.block,ad.off+3,none⟩) r.length (c - 1)) rfl);have hn4:=Aside0.mk (blk_far HNY.out hne1 (.slice (some ⟨ad.block,ad.off+3,none⟩) r.length (c - 1)) (p:=⟨g,0,none⟩));have ht4:=blk_far HTY.out hne2 (.slice (some ⟨ad.block,ad.off+3,none⟩) r.length (c - 1)) (p:=⟨g,0,none⟩);have KB4:=Aside0.mk (KBA.out (.slice (some ⟨ad.block,ad.off+3,none⟩) r.length (c - 1)));have B4:=Aside0.mk (B0A.out (.slice (some ⟨ad.block,ad.off+3,none⟩) r.length (c - 1)));have hC4:Aside0 (Kd.C k108 w0 (some ⟨ad.block,ad.off+3,none⟩) r.length r∧TokAt w0 (some ⟨ad.block,ad.off+3,none⟩)):=Aside0.mk ⟨by have h_:=hCd.out;rw [if_neg hc1] at h_;rw [← add_pos' ad 3 (by decide)];exact h_,fun a ha=>by obtain rfl:=Option.some.inj ha;exact HTY'.out ad rfl⟩;have hc4:Aside0 (r.length≤c - 1):=Aside0.mk (by have h_:=HLC.out;rw [List.length_cons] at h_;omega);generalize Y.setCell ⟨g,0,none⟩ (.slice (some ⟨ad.block,ad.off+3,none⟩) r.length (c - 1))=Z at hg4 hn4 ht4 KB4 B4 ⊢;have c0:=blk_cell ht4 0;have c1:=blk_cell ht4 1;have c2:=blk_cell ht4 2;have d0:=blk_cell hn4.out 0;have d1:=blk_cell hn4.out 1;have d2:=blk_cell hn4.out 2;have e0:=blk_frozen hn4.out 0;have e1:=blk_frozen hn4.out 1;have e2:=blk_frozen hn4.out 2;clear k0 kf b0 ht4;go_wp2_with fail
  obtain ⟨r1,r2,r3⟩:=take_end (x0:=.int .i64 t.f0) (x1:=.int .i64 t.f1) (x2:=.string t.f2) rfl hne1 hg4.out hc4.out hC4.out GE2.out GE.out hn4.out KB4.out B4.out;refine Go.bodyPost_ret (results_cell_row rfl _ _ w.heap.size 108 #[.int .i64 t.f0,.int .i64 t.f1,.string t.f2] (0,0) _ rfl (by exact r3) Tryd.underlying108 rfl (by kernel_rfl)) rfl ?_
  exact ⟨rfl,r1,r2⟩
def FailsW (w0 w:World) (g:Nat) (at_ er:Int) (E:Ending) (w':World):Prop:=E= .panicked (wrongP at_ er)∧Below w0.heap.size w0 w'∧KeepBut w w' g none
theorem Ps.fail_then {w0 w w1:World} {g:Nat} {l:List Tok6} {e:Int} (h:Ps w0 w1 g l e) (hk:KeepBut w w1 g none) (er:Int):
  Calls Tryd.prog 65 #[.pointer (some ⟨g,0,none⟩),.int .i64 er] w1 fun E w'=>FailsW w0 w g (nx l e).f1 er E w':=by
 refine (fail_calls h er).mono ?_
 rintro E w' ⟨rfl,hb⟩
 exact ⟨rfl,below_step h.bel hb,hk.trans (KeepBut.of_below hb g none) (.inl rfl)⟩
set_option maxRecDepth 20000 in
set_option maxHeartbeats 400000 in
theorem name_ok {w0 w:World} {g:Nat} {t:Tok6} {r:List Tok6} {e:Int} (h:Ps w0 w g (t::r) e) (hG:GL w0) (ht:t.f0=1) (hn:nameB t.f2.data.toList=true):
  Calls Tryd.prog 63 #[.pointer (some ⟨g,0,none⟩)] w fun E w'=>E= .returned (.string t.f2)∧Ps w0 w' g r e∧KeepBut w w' g none:=by
 have hu:=Tryd.underlying108;obtain ⟨t0,t1,t2⟩:=t;obtain rfl:t0=1:=ht;have hf:lex_Name.f t2=some true:=by unfold lex_Name.f;rw [show nameB t2.data.toList=true from hn]
 have HF:=Aside0.mk hf;have HG:=Aside0.mk hG;have HN:Aside0 (Calls Tryd.prog 61 #[.pointer (some ⟨g,0,none⟩)] w fun E w'=>E= .returned (.agg #[.int .i64 1,.int .i64 t1,.string t2])∧Below w.heap.size w w'):=Aside0.mk (next_calls h);have hfd: ∀ W,(Instr.field 108 (.agg #[.int .i64 1,.int .i64 t1,.string t2]) 2).run Tryd.prog W= .ok (.string t2) W:=fun W=>by rfl
 have HP:=Aside0.mk h;clear h hG hn hf;go_enter Tryd.func63,Tryd.ntmps63
 go_wp2_with fail
 refine HN.out.mono ?_
 rintro E w1 ⟨rfl,hb1⟩
 have hX:=below_alloc hb1 (.cells #[.int .i64 1,.int .i64 t1,.string t2] 108);have hbY:=blk_new w1 (.cells #[.int .i64 1,.int .i64 t1,.string t2] 108);go_upto_region 2 with fail
 generalize w1.alloc (.cells #[.int .i64 1,.int .i64 t1,.string t2] 108)=Y at hX hbY ⊢;have c0:=blk_cell hbY 0;have c2:=blk_cell hbY 2;have HY:=Aside0.mk hX;have HPY:=Aside0.mk (HP.out.below hX);clear hX hbY HN HP hb1;go_wp2_with fail
 refine (lex_Name.calls t2 true _ HF.out (HG.out.of_below HPY.out.bel)).mono ?_
 rintro E w2 ⟨rfl,hb2⟩
 have HP2:=Aside0.mk (HPY.out.below hb2);have HY2:=Aside0.mk (below_step HY.out hb2);clear HPY HY hb2 c0 c2;go_wp2_with fail
 refine (take_calls HP2.out (show (1:Int)≠0 by decide)).mono ?_
 rintro E w3 ⟨rfl,hP3,hk3⟩
 have HP3:=Aside0.mk hP3;have HK3:=Aside0.mk ((KeepBut.of_below HY2.out g none).trans hk3 (.inl rfl));clear hP3 hk3;go_wp2_with fail
 go_ret
 exact ⟨rfl,HP3.out,HK3.out⟩
set_option maxRecDepth 20000 in
set_option maxHeartbeats 400000 in
theorem name_bad {w0 w:World} {g:Nat} {l:List Tok6} {e:Int} (h:Ps w0 w g l e) (hG:GL w0) (hbad:(nx l e).f0≠1∨(nx l e).f0=1∧nameB (nx l e).f2.data.toList=false):
  Calls Tryd.prog 63 #[.pointer (some ⟨g,0,none⟩)] w fun E w'=>FailsW w0 w g (nx l e).f1 7 E w':=by
 have hu:=Tryd.underlying108;have HG:=Aside0.mk hG;have HN:=Aside0.mk (next_calls h);have HP:=Aside0.mk h;have HQ:Aside0 (∀ w1,Ps w0 w1 g l e→KeepBut w w1 g none→Calls Tryd.prog 65 #[.pointer (some ⟨g,0,none⟩),.int .i64 7] w1 fun E w'=>FailsW w0 w g (nx l e).f1 7 E w'):=Aside0.mk fun w1 h1 hk=>h1.fail_then hk 7
 generalize hnx:nx l e=n at HN HQ hbad ⊢;obtain ⟨n0,n1,n2⟩:=n;have HB:=Aside0.mk hbad;clear h hG hbad hnx;go_enter Tryd.func63,Tryd.ntmps63
 go_wp2_with fail
 refine HN.out.mono ?_
 rintro E w1 ⟨rfl,hb1⟩
 have hX:=below_alloc hb1 (.cells #[.int .i64 n0,.int .i64 n1,.string n2] 108);have hbY:=blk_new w1 (.cells #[.int .i64 n0,.int .i64 n1,.string n2] 108);go_upto_region 2 with fail
 generalize w1.alloc (.cells #[.int .i64 n0,.int .i64 n1,.string n2] 108)=Y at hX hbY ⊢;have c0:=blk_cell hbY 0;have c2:=blk_cell hbY 2;have HY:=Aside0.mk hX;have HPY:=Aside0.mk (HP.out.below hX);clear hX hbY HN HP hb1;rcases HB.out with hb|⟨hb,hb2⟩
 ·have q:(n0 !=1)=true:=bne_iff_ne.mpr hb;have q2:(n0==1)=false:=beq_eq_false_iff_ne.mpr hb;clear hb HB;go_wp2_with fail
  refine (HQ.out _ HPY.out (KeepBut.of_below HY.out g none)).mono ?_
  rintro E w2 ⟨rfl,hb2,hk2⟩
  go_wp2_with fail
  exact ⟨rfl,rfl,hb2,hk2⟩
 ·obtain rfl:n0=1:=hb;have HF:Aside0 (lex_Name.f n2=some false):=Aside0.mk (by unfold lex_Name.f;rw [show nameB n2.data.toList=false from hb2]);clear hb2 HB;go_wp2_with fail
  refine (lex_Name.calls n2 false _ HF.out (HG.out.of_below HPY.out.bel)).mono ?_
  rintro E w2 ⟨rfl,hb2⟩
  have HP2:=Aside0.mk (HPY.out.below hb2);have HY2:=Aside0.mk (below_step HY.out hb2);clear HPY HY hb2 c0 c2;go_wp2_with fail
  refine (HQ.out _ HP2.out (KeepBut.of_below HY2.out g none)).mono ?_
  rintro E w3 ⟨rfl,hb3,hk3⟩
  go_wp2_with fail
  exact ⟨rfl,rfl,hb3,hk3⟩
def verbsT:ByteArray:=⟨#[117,115,101,32,115,101,116,32,108,111,99,107,32,117,110,108,111,99,107,32,99,97,108,108,32,115,112,97,119,110,32,105,102,32,108,111,111,112]⟩
def verbsC:List (List UInt8):= [[117,115,101],[115,101,116],[108,111,99,107],[117,110,108,111,99,107],[99,97,108,108],[115,112,97,119,110],[105,102],[108,111,111,112]]
theorem fields_verbs:Lib.fields verbsT.data.toList=verbsC:=by decide+kernel
theorem verbs_ascii: ∀ b∈verbsT.data.toList,b.toNat<128:=by decide
def verbVals:Array Value:=(verbsC.map fun l=>Value.string ⟨l.toArray⟩).toArray
theorem fields_verbs_call (w:World) (hG:GL w):Calls Tryd.prog 89 #[.string verbsT] w fun e w'=>e= .returned (.slice (some ⟨w.heap.size,0,none⟩) 8 8)∧w'=w.alloc (.cells verbVals 9):=by
 refine (Tryd.strings_Fields_laid verbsT w (by decide) (fun j b hb=>verbs_ascii b (List.mem_of_getElem? hb)) hG.ascii).mono ?_
 rintro e w' ⟨rfl,rfl⟩
 rw [fields_verbs];exact ⟨rfl,rfl⟩
def verbBA:List ByteArray:=verbsC.map fun l=>⟨l.toArray⟩
theorem add_cell (g n:Nat):(⟨g,0,none⟩:Addr).add n=⟨g,n,none⟩:=by unfold Addr.add;split <;> simp_all
theorem C_strings {w:World} {g:Nat} {t:TypeId} {xs:List ByteArray} (h:w.heap[g]? =some (.cells (xs.map Value.string).toArray t (0,0))) (hl:xs.length≤9223372036854775807):
  Kd.C Kd.string w (some ⟨g,0,none⟩) xs.length xs:=by
 refine ⟨rfl,hl,fun _=>⟨_,rfl,fun j p hj=>⟨[.string p],rfl,rfl,fun i u hi=>?_⟩⟩⟩;obtain ⟨rfl,rfl⟩:i=0∧u= .string p:=by
  cases i with
  |zero=>simpa using hi.symm
  |succ i=>simp at hi
 have e:(⟨g,0,none⟩:Addr).add (j * Kd.string.sz+0)=⟨g,j,none⟩:=by
  show (⟨g,0,none⟩:Addr).add (j * 1+0)=_
  rw [add_cell];simp
 rw [e];have:=blk_cell h j;rw [this];simp [hj]
def ixFrom (s:List UInt8):List (List UInt8)→Nat→Int
 |[],_=>-1
 |c::r,i=>if s=c then (i:Int) else ixFrom s r (i+1)
theorem rdOf_bas (ps:List (List UInt8)) (i:Int) (h0:0≤i) (h:i<ps.length):rdOf ByteArray.empty (ps.map fun l=>(⟨l.toArray⟩:ByteArray)) i=⟨(ps.getD i.toNat []).toArray⟩:=by
 unfold rdOf
 have hl:i.toNat<ps.length:=by omega
 simp [List.getD_eq_getElem?_getD,List.getElem?_eq_getElem hl]
theorem index_ev (s:ByteArray):EvS (fun k=>slices_Index_string_string.f k verbBA s) (ixFrom s.data.toList verbsC 0):=by
 have H: ∀ (d i:Nat),8 - i=d→i≤8→EvS (fun k=>slices_Index_string_string.l0 k verbBA s 8 (i:Int)) (ixFrom s.data.toList (verbsC.drop i) i):=by
  have hl:verbBA.length=8:=rfl;have hl':verbsC.length=8:=rfl;intro d;induction d with
  |zero=>
   intro i hd hi;obtain rfl:i=8:=by omega
   refine EvS.succ ?_
   simp only [slices_Index_string_string.l0];exact EvS.if_neg (by omega) (.some_ _)
  |succ d ih=>
   intro i hd hi;have hw:wrap64 ((i:Int)+1)=((i+1:Nat):Int):=by rw [w64 (by omega)];omega
   have hlt:i<verbsC.length:=by omega
   refine EvS.succ ?_
   simp only [slices_Index_string_string.l0];refine EvS.if_pos (by omega) (EvS.if_pos (by omega) (EvS.if_pos (by rw [hl];omega) ?_));rw [verbBA,rdOf_bas verbsC _ (by omega) (by omega),ByteArray.toList_eq,ByteArray.toList_eq,List.drop_eq_getElem_cons hlt];have hg:verbsC.getD (i:Int).toNat []=verbsC[i]:=by simp [List.getD_eq_getElem?_getD,List.getElem?_eq_getElem hlt]
   simp only [hg,ixFrom];by_cases h:s.data.toList=verbsC[i]
   ·refine EvS.if_pos (by simpa using h) ?_
    rw [if_pos h];exact .some_ _
   ·refine EvS.if_neg (by simpa using h) ?_
    rw [if_neg h,hw];exact ih (i+1) (by omega) (by omega)
 unfold slices_Index_string_string.f
 exact H 8 0 rfl (by omega)
theorem ixFrom_le (s:List UInt8): ∀ (l:List (List UInt8)) (i:Nat),-1≤ixFrom s l i∧ixFrom s l i<(i+l.length:Nat)
 |[],i=>by simp only [ixFrom,List.length_nil];omega
 |c::r,i=>by
  have:=ixFrom_le s r (i+1);simp only [ixFrom,List.length_cons];split<;>omega
def kindN (s:ByteArray):Int:=ixFrom s.data.toList verbsC 0+1
theorem kindN_le (s:ByteArray):0≤kindN s∧kindN s≤8:=by
 have:=ixFrom_le s.data.toList verbsC 0;have hl:verbsC.length=8:=rfl;unfold kindN
 omega
set_option maxRecDepth 20000 in
set_option maxHeartbeats 400000 in
theorem kind_calls (s:ByteArray) (w:World) (hG:GL w):Calls Tryd.prog 90 #[.string s] w fun e w'=>e= .returned (.int .i64 (kindN s))∧Below w.heap.size w w':=by
 obtain ⟨k,hk⟩:=(index_ev s).exists_;have hw:wrap64 (ixFrom s.data.toList verbsC 0+1)=kindN s:=w64 (by have:=kindN_le s;unfold kindN at this;omega);have HK:=Aside0.mk hk;have HG:=Aside0.mk hG;have HW:=Aside0.mk hw;generalize ixFrom s.data.toList verbsC 0=ix at HK HW;clear hG hk hw;go_enter Tryd.func90,Tryd.ntmps90
 go_wp2_with fail
 refine (fields_verbs_call w HG.out).mono ?_
 rintro e w1 ⟨rfl,hw1⟩
 have hC:Kd.C Kd.string w1 (some ⟨w.heap.size,0,none⟩) verbBA.length verbBA:=by
  subst hw1;exact C_strings (heap_alloc_new w _) (by decide)
 have HB:=Aside0.mk (show Below w.heap.size w w1 by subst hw1;exact below_alloc (Below.refl _ _) _);clear hw1;have HC:=Aside0.mk hC;clear hC;go_wp2_with fail
 refine (slices_Index_string_string.calls k (some ⟨w.heap.size,0,none⟩) 8 verbBA s ix _ HC.out (by decide) HK.out).mono ?_
 rintro e w2 ⟨rfl,⟨nd,rfl⟩⟩
 go_wp2_with fail
 go_ret
 exact ⟨by rw [HW.out];rfl,pw_below_drewN HB.out _⟩
def shapesT:ByteArray:=⟨#[110,110,110,110,110,110,105,111]⟩
def shapeN (k:Nat):Int:=([0,110,110,110,110,110,110,105,111].getD k 0:Nat)
theorem shapes_at: ∀ p,p<8→ ∀ (h:p<shapesT.size),((shapesT[p]'h).toNat<128∧((shapesT[p]'h).toNat:Int)=shapeN (p+1)):=by decide
set_option maxRecDepth 20000 in
set_option maxHeartbeats 400000 in
theorem shape_calls (k:Nat) (hk:k≤8) (w:World):Calls Tryd.prog 88 #[.int .i64 (k:Int)] w fun e w'=>e= .returned (.int .i32 (shapeN k))∧Below w.heap.size w w':=by
 have HK8:=Aside0.mk hk;clear hk;go_enter Tryd.func88,Tryd.ntmps88
 go_wp2
 go_loopw [] (fun wr=>∃ (pos:Nat),Aside0 (wr.heap[w.heap.size]? =some (.stringIter shapesT pos))∧Aside0 (Below w.heap.size w wr)∧Aside0 (pos≤8∧(k=0∨pos<k))) (fun wr=>8 - wr.iterPos w.heap.size)
 case atStart=>
  refine ⟨0,⟨?_⟩,⟨?_⟩,⟨by omega,by omega⟩⟩;·exact World.iter_heap w shapesT 0
  ·exact (Below.refl _ w).alloc (Nat.le_refl _) _
 case round=>
  obtain ⟨pos,hit0,hbw,hr⟩:=hrel;have hit:=hit0.out;have hle:Aside0 (pos≤8):=⟨hr.out.1⟩;have hsz8:shapesT.size=8:=rfl;by_cases hp:pos<8
  ·have hp':pos<shapesT.size:=hp;have hm:Aside0 (wr.iterPos w.heap.size=pos):=⟨by simp [World.iterPos,hit]⟩;obtain ⟨ha,hsv⟩:=shapes_at pos hp hp';have hnx: ∀ ty,(Instr.next (.pointer (some ⟨w.heap.size,0,none⟩)) true ty).run Tryd.prog wr=_:=fun ty=>Lib.run_next_ascii_at wr w.heap.size shapesT pos ty hit hp' ha
   rw [hsv] at hnx;have hit2:=Aside0.mk (Lib.iterAt_heap wr w.heap.size shapesT pos (pos+1) hit);have hbw2:=Aside0.mk (Lib.below_iterAt hbw.out (k:=w.heap.size) (Nat.le_refl _) shapesT (pos+1));have hw1:wrap64 ((pos:Int)+1)=((pos+1:Nat):Int):=by rw [w64 (by omega)];omega
   have hw2:IntKind.i64.wrap ((pos:Int)+1)=((pos+1:Nat):Int):=by rw [IntKind.wrap_i64];omega
   clear hit ha hsv hp' hsz8;by_cases he:pos+1=k
   ·have q:(((pos:Int)+1)==(k:Int))=true:=beq_iff_eq.mpr (by omega);have q':(((pos+1:Nat):Int)==(k:Int))=true:=beq_iff_eq.mpr (by omega);have HS:Aside0 (shapeN (pos+1)=shapeN k):=⟨by rw [he]⟩;clear he;go_wp2_with fail
    go_ret
    exact ⟨by rw [HS.out];rfl,hbw2.out⟩
   ·have q:(((pos:Int)+1)==(k:Int))=false:=beq_eq_false_iff_ne.mpr (by omega);have q':(((pos+1:Nat):Int)==(k:Int))=false:=beq_eq_false_iff_ne.mpr (by omega);have hrr:Aside0 (pos+1≤8∧(k=0∨pos+1<k)):=⟨by have:=hr.out;omega⟩;clear he;go_wp2_with fail
    go_roundw
    case rel=>exact ⟨pos+1,⟨hit2.out⟩,⟨hbw2.out⟩,hrr⟩
    case measure=>
     have h2:(wr.iterAt w.heap.size shapesT (pos+1)).iterPos w.heap.size=pos+1:=by
      have:=hit2.out;simp [World.iterPos,this]
     rw [hm.out,h2];omega
  ·have hnx: ∀ ty,(Instr.next (.pointer (some ⟨w.heap.size,0,none⟩)) true ty).run Tryd.prog wr=_:=fun ty=>Lib.run_next_end_at wr w.heap.size shapesT pos ty hit (by rw [hsz8];exact hp)
   have HS:Aside0 (shapeN k=0):=⟨by
    have:=hr.out;have h8:=HK8.out;obtain rfl:k=0:=by omega
    rfl⟩
   go_wp2
   go_ret
   exact ⟨by rw [HS.out];rfl,hbw.out⟩
abbrev St6:=S86
inductive Out (α:Type) where
 |ok:α→List Tok6→Out α
 |bad:Int→Int→Out α
def elseT:ByteArray:=⟨#[101,108,115,101]⟩
def blockW (e:Int) (ss:Int→List Tok6→Out (List St6)) (deep:Int) (l:List Tok6):Out (List St6):=
 if (nx l e).f0≠2 then .bad (nx l e).f1 7
 else if 20≤deep then .bad (nx l e).f1 8
 else ss (deep+1) l.tail
def stmtW (e:Int) (bl:List Tok6→Out (List St6)) (l:List Tok6):Out St6:=
 if (nx l e).f0≠1 then .bad (nx l e).f1 7
 else if kindN (nx l e).f2=0 then .bad (nx l e).f1 7
 else if kindN (nx l e).f2≤6 then
  if (nx l.tail e).f0=1∧nameB (nx l.tail e).f2.data.toList=true then .ok ⟨kindN (nx l e).f2,(nx l e).f1,(nx l.tail e).f2,[],[]⟩ l.tail.tail
  else .bad (nx l.tail e).f1 7
 else match bl l.tail with
  | .bad a b=>.bad a b
  | .ok A r=>
   if kindN (nx l e).f2=8 then .ok ⟨8,(nx l e).f1,⟨#[]⟩,A,[]⟩ r
   else if (nx r e).f2=elseT then match bl r.tail with
    | .bad a b=>.bad a b
    | .ok B r2=>.ok ⟨7,(nx l e).f1,⟨#[]⟩,A,B⟩ r2
   else .ok ⟨7,(nx l e).f1,⟨#[]⟩,A,[]⟩ r
def thenS (k:List Tok6→Out (List St6)):Out St6→Out (List St6)
 | .bad a b=>.bad a b
 | .ok s r=>match k r with
  | .bad a b=>.bad a b
  | .ok ss r2=>.ok (s::ss) r2
def stmtsP (e:Int):Nat→Int→List Tok6→Out (List St6)
 |0,_,_=>.bad 0 0
 |n+1,deep,l=>
  if (nx l e).f0=3 then .ok [] l.tail
  else thenS (stmtsP e n deep) (stmtW e (blockW e (stmtsP e n) deep) l)
def consO (acc:List St6):Out (List St6)→Out (List St6)
 | .bad a b=>.bad a b
 | .ok ss r=>.ok (acc++ss) r
theorem tail_suf (l:List Tok6):l.tail<:+l:=List.tail_suffix l
theorem blockW_suf {e:Int} {ss:Int→List Tok6→Out (List St6)} (h: ∀ d l A r,ss d l= .ok A r→r<:+l) {deep:Int} {l:List Tok6} {A:List St6} {r:List Tok6} (hb:blockW e ss deep l= .ok A r):r<:+l:=by
 unfold blockW at hb
 split at hb
 ·cases hb
 ·split at hb
  ·cases hb
  ·exact (h _ _ _ _ hb).trans (tail_suf l)
theorem stmtW_suf {e:Int} {bl:List Tok6→Out (List St6)} (h: ∀ l A r,bl l= .ok A r→r<:+l) {l:List Tok6} {s:St6} {r:List Tok6} (hb:stmtW e bl l= .ok s r):r<:+l.tail:=by
 unfold stmtW at hb
 split at hb
 ·cases hb
 split at hb
 ·cases hb
 split at hb
 ·split at hb
  ·injection hb with h1 h2
   subst h2;exact tail_suf _
  ·cases hb
 ·split at hb
  ·cases hb
  ·rename_i A r1 h1
   split at hb
   ·injection hb with h3 h4
    subst h4;exact h _ _ _ h1
   ·split at hb
    ·split at hb
     ·cases hb
     ·rename_i B r2 h2
      injection hb with h3 h4
      subst h4;exact ((h _ _ _ h2).trans (tail_suf _)).trans (h _ _ _ h1)
    ·injection hb with h3 h4
     subst h4;exact h _ _ _ h1
theorem stmtsP_suf {e:Int} : ∀ (n:Nat) {deep:Int} {l:List Tok6} {A:List St6} {r:List Tok6},stmtsP e n deep l= .ok A r→r<:+l
 |0,_,_,_,_,h=>by simp [stmtsP] at h
 |n+1,deep,l,A,r,h=>by
  have ih:=fun d l A r=>stmtsP_suf (e:=e) n (deep:=d) (l:=l) (A:=A) (r:=r)
  simp only [stmtsP] at h;split at h
  ·injection h with h1 h2
   subst h2;exact tail_suf l
  ·cases h1:stmtW e (blockW e (stmtsP e n) deep) l with
   |bad a b=>rw [h1] at h;cases h
   |ok s r1=>
    rw [h1] at h;simp only [thenS] at h;split at h
    ·cases h
    ·rename_i ss r2 h2
     injection h with h3 h4
     subst h4;exact (ih _ _ _ _ h2).trans ((stmtW_suf (fun l A r hb=>blockW_suf ih hb) h1).trans (tail_suf l))
theorem stmtW_ne {e:Int} {bl:List Tok6→Out (List St6)} {l:List Tok6} {s:St6} {r:List Tok6} (hb:stmtW e bl l= .ok s r):0<l.length:=by
 cases l with
 |nil=>
  unfold stmtW at hb
  have h1:(nx [] e).f0≠1:=show (0:Int)≠1 by decide
  rw [if_pos h1] at hb;cases hb
 |cons t q=>simp
def BlockPost (w0 w:World) (g:Nat) (e:Int) (o:Out (List St6)) (E:Ending) (w':World):Prop:=
 match o with
 | .ok ss r=>∃ v,E= .returned v∧Kd.R k86 86 w' w.heap.size (fun k=>w.heap.size≤k) v ss∧Ps w0 w' g r e∧KeepBut w w' g none
 | .bad a er=>FailsW w0 w g a er E w'
def StmtPost (w0 w:World) (g:Nat) (e:Int) (o:Out St6) (E:Ending) (w':World):Prop:=
 match o with
 | .ok s r=>∃ vA vB,E= .returned (.agg #[.int .i64 s.f0,.int .i64 s.f1,.string s.f2,vA,vB])∧Kd.R k86 86 w' w.heap.size (fun k=>w.heap.size≤k) vA s.f3∧
   Kd.R k86 86 w' w.heap.size (fun k=>w.heap.size≤k) vB s.f4∧Ps w0 w' g r e∧KeepBut w w' g none
 | .bad a er=>FailsW w0 w g a er E w'
theorem nx_cons {l:List Tok6} {e:Int} (h:(nx l e).f0≠0):l=nx l e::l.tail:=by
 cases l with
 |nil=>exact absurd rfl h
 |cons t r=>rfl
theorem kb_blk {w w':World} {g b:Nat} {o:Obj} (hk:KeepBut w w' g none) (hb:w.heap[b]? =some o) (hne:b≠g):w'.heap[b]? =some o:=(hk.2 b (blk_lt hb) hne (by simp)).trans hb
structure Sm (w0 w Z:World) (g b6:Nat) (l:List Tok6) (e:Int) (x0 x1 x2 x3 x4:Value):Prop where
 ps:Ps w0 Z g l e
 kb:KeepBut w Z g none
 n4:Z.heap[w.heap.size]? =some (.cells #[.int .i64 0,.int .i64 0,.string ⟨#[]⟩,.slice none 0 0,.slice none 0 0] 86 (0,0))
 n6:Z.heap[b6]? =some (.cells #[x0,x1,x2,x3,x4] 86 (0,0))
 ge:w.heap.size<b6
 gl:g<w.heap.size
 w0:w0.heap.size≤w.heap.size
theorem Sm.step {w0 w Z Z':World} {g b6:Nat} {l l':List Tok6} {e:Int} {x0 x1 x2 x3 x4:Value} (h:Sm w0 w Z g b6 l e x0 x1 x2 x3 x4) (hP:Ps w0 Z' g l' e) (hk:KeepBut Z Z' g none):Sm w0 w Z' g b6 l' e x0 x1 x2 x3 x4:=
 ⟨hP,h.kb.trans hk (.inl rfl),kb_blk hk h.n4 (by have:=h.gl;omega),kb_blk hk h.n6 (by have:=h.gl;have:=h.ge;omega),h.ge,h.gl,h.w0⟩
theorem Sm.below {w0 w Z Z':World} {g b6:Nat} {l:List Tok6} {e:Int} {x0 x1 x2 x3 x4:Value} (h:Sm w0 w Z g b6 l e x0 x1 x2 x3 x4) (hb:Below Z.heap.size Z Z'):Sm w0 w Z' g b6 l e x0 x1 x2 x3 x4:=
 h.step (h.ps.below hb) (KeepBut.of_below hb g none)
theorem Ps.far {w0 w:World} {g:Nat} {l:List Tok6} {e:Int} (h:Ps w0 w g l e) {p:Addr} (hne:g≠p.block) (hge:w0.heap.size≤p.block) (u:Value):Ps w0 (w.setCell p u) g l e:=by
 obtain ⟨A,c,h1,h2,h3⟩:=h.blk;exact ⟨⟨A,c,blk_far h1 hne u,h2,h3⟩,h.ge,Below.setCell h.bel hge u⟩
theorem Sm.put_ {w0 w Z:World} {g b6:Nat} {l:List Tok6} {e:Int} {x0 x1 x2 x3 x4 y0 y1 y2 y3 y4:Value} (h:Sm w0 w Z g b6 l e x0 x1 x2 x3 x4) (j:Nat) (v:Value) (hv: #[x0,x1,x2,x3,x4].setIfInBounds j v= #[y0,y1,y2,y3,y4]):Sm w0 w (Z.setCell ⟨b6,j,none⟩ v) g b6 l e y0 y1 y2 y3 y4:=by
 have h1:=h.gl;have h2:=h.ge;have h3:=h.w0;exact ⟨h.ps.far (by show g≠b6;omega) (by show _≤b6;omega) v,keep_far h.kb (by show _≤b6;omega) v,blk_far h.n4 (by show w.heap.size≠b6;omega) v,blk_put h.n6 j v hv,h.ge,h.gl,h.w0⟩
theorem Sm.end_ {w0 w Z:World} {g b6:Nat} {l:List Tok6} {e:Int} {x0 x1 x2 x3 x4:Value} (h:Sm w0 w Z g b6 l e x0 x1 x2 x3 x4) {vA vB:Value} {A B:List St6}
  (hA:Kd.R k86 86 Z w.heap.size (fun k=>w.heap.size<k) vA A) (hB:Kd.R k86 86 Z w.heap.size (fun k=>w.heap.size<k) vB B):
  let Zf:=((((Z.setCell ⟨w.heap.size,0,none⟩ x0).setCell ⟨w.heap.size,1,none⟩ x1).setCell ⟨w.heap.size,2,none⟩ x2).setCell ⟨w.heap.size,3,none⟩ x3).setCell ⟨w.heap.size,4,none⟩ x4
  Zf.heap[w.heap.size]? =some (.cells #[x0,x1,x2,x3,x4] 86 (0,0))∧Kd.R k86 86 Zf w.heap.size (fun k=>w.heap.size≤k) vA A∧Kd.R k86 86 Zf w.heap.size (fun k=>w.heap.size≤k) vB B∧Ps w0 Zf g l e∧KeepBut w Zf g none:=by
 have h1:=h.gl;have h3:=h.w0;have f: ∀ (Y:World) (j:Nat) (u:Value),Ps w0 Y g l e→Ps w0 (Y.setCell ⟨w.heap.size,j,none⟩ u) g l e:=fun Y j u hY=>hY.far (by show g≠w.heap.size;omega) h3 u
 have k: ∀ (Y:World) (j:Nat) (u:Value),KeepBut w Y g none→KeepBut w (Y.setCell ⟨w.heap.size,j,none⟩ u) g none:=fun Y j u hY=>keep_far hY (Nat.le_refl _) u
 have r: ∀ (Y:World) (j:Nat) (u v:Value) (xs:List St6),Kd.R k86 86 Y w.heap.size (fun k=>w.heap.size<k) v xs→Kd.R k86 86 (Y.setCell ⟨w.heap.size,j,none⟩ u) w.heap.size (fun k=>w.heap.size<k) v xs:=
  fun Y j u v xs hY=>Kd.R_far hY (p:=⟨w.heap.size,j,none⟩) (fun k_ hk=>by show k_≠w.heap.size;omega) u
 exact ⟨blk_put (blk_put (blk_put (blk_put (blk_put h.n4 0 _ rfl) 1 _ rfl) 2 _ rfl) 3 _ rfl) 4 _ rfl,Kd.R_mono (r _ _ _ _ _ (r _ _ _ _ _ (r _ _ _ _ _ (r _ _ _ _ _ (r _ _ _ _ _ hA))))) (fun _ hk=>Nat.le_of_lt hk),Kd.R_mono (r _ _ _ _ _ (r _ _ _ _ _ (r _ _ _ _ _ (r _ _ _ _ _ (r _ _ _ _ _ hB))))) (fun _ hk=>Nat.le_of_lt hk),
  f _ _ _ (f _ _ _ (f _ _ _ (f _ _ _ (f _ _ _ h.ps)))),k _ _ _ (k _ _ _ (k _ _ _ (k _ _ _ (k _ _ _ h.kb))))⟩
theorem shape_n: ∀ k,k<7→0<k→shapeN k=110:=by decide
set_option maxRecDepth 100000 in
set_option maxHeartbeats 1600000 in
theorem stmt_of {w0 w:World} {g:Nat} {l:List Tok6} {e deep:Int} (bl:List Tok6→Out (List St6)) (hsuf: ∀ l A r,bl l= .ok A r→r<:+l)
  (hbl: ∀ w r,Ps w0 w g r e→r<:+l.tail→Calls Tryd.prog 64 #[.pointer (some ⟨g,0,none⟩),.int .i64 deep] w (BlockPost w0 w g e (bl r)))
  (h:Ps w0 w g l e) (hkd: ∀ t∈l,t.f0≠0) (hG:GL w0):
  Calls Tryd.prog 82 #[.pointer (some ⟨g,0,none⟩),.int .i64 deep] w (StmtPost w0 w g e (stmtW e bl l)):=by
 have hu:=Tryd.underlying108;have hu86:=Tryd.underlying86;have HSUF:=Aside0.mk hsuf;have HKD:=Aside0.mk hkd;have HBL:=Aside0.mk hbl;have HG:=Aside0.mk hG;have hb0:=below_alloc (Below.refl w.heap.size w) (.cells #[.int .i64 0,.int .i64 0,.string ⟨#[]⟩,.slice none 0 0,.slice none 0 0] 86);have hn0:=blk_new w (.cells #[.int .i64 0,.int .i64 0,.string ⟨#[]⟩,.slice none 0 0,.slice none 0 0] 86);have HP:=Aside0.mk (h.below hb0);have HP0:=Aside0.mk h;have glt:=h.lt;clear hsuf hbl hG h hkd;obtain ⟨⟨t0,t1,t2⟩,hnx⟩: ∃ t,nx l e=t:=⟨_,rfl⟩;have HNX:=Aside0.mk hnx;clear hnx;go_enter Tryd.func82,Tryd.ntmps82
 go_upto_region 1 with fail
 generalize w.alloc (.cells #[.int .i64 0,.int .i64 0,.string ⟨#[]⟩,.slice none 0 0,.slice none 0 0] 86)=X at hb0 hn0 HP ⊢;have HB0:=Aside0.mk hb0;have HN0:=Aside0.mk hn0;clear hb0 hn0;go_wp2_with fail
 refine (next_calls HP.out).mono ?_
 rintro E w1 ⟨rfl,hb1⟩
 rw [HNX.out];have HP1:=Aside0.mk ((HP.out.below hb1).below (below_alloc (Below.refl _ w1) (.cells #[.int .i64 t0,.int .i64 t1,.string t2] 108)));have HB1:=Aside0.mk (below_alloc (below_step HB0.out hb1) (.cells #[.int .i64 t0,.int .i64 t1,.string t2] 108));have HN1:=Aside0.mk (blk_alloc (blk_below HN0.out hb1) (.cells #[.int .i64 t0,.int .i64 t1,.string t2] 108));have hbt:=blk_new w1 (.cells #[.int .i64 t0,.int .i64 t1,.string t2] 108);go_upto_region 2 with fail
 generalize w1.alloc (.cells #[.int .i64 t0,.int .i64 t1,.string t2] 108)=Y at HP1 HB1 HN1 hbt ⊢;have c0:=blk_cell hbt 0;have c1:=blk_cell hbt 1;have c2:=blk_cell hbt 2;clear hb1 hbt HP HB0 HN0;by_cases ht:t0=1
 ·subst ht;go_upto_region 4 with fail
  have GL1:=Aside0.mk (HG.out.of_below HP1.out.bel);have hlt0:w.heap.size<Y.heap.size:=blk_lt HN1.out;have HLT0:=Aside0.mk hlt0;clear hlt0;have HS:Aside0 (∀ W,Below Y.heap.size Y W→W.cell? ⟨w1.heap.size,1,none⟩=some (.int .i64 t1)∧W.cell? ⟨w1.heap.size,2,none⟩=some (.string t2)):=Aside0.mk fun W hW=>⟨(hW.cell (World.block_lt_of_cell? Y _ c1)).trans c1,(hW.cell (World.block_lt_of_cell? Y _ c2)).trans c2⟩
  go_cut [6] (fun v6 wc=>∃ b6,v6= .pointer (some ⟨b6,0,none⟩)∧Aside0 (wc.heap[b6]? =some (.cells #[.int .i64 (kindN t2),.int .i64 t1,.string ⟨#[]⟩,.slice none 0 0,.slice none 0 0] 86 (0,0)))∧Aside0 (Y.heap.size≤b6)∧Aside0 (Below Y.heap.size Y wc))
  case first=>
   refine start_ (n:=8) (S:=fun w'=>w'.cell? ⟨w1.heap.size,1,none⟩=some (.int .i64 t1)∧w'.cell? ⟨w1.heap.size,2,none⟩=some (.string t2)) (ds:=[]) #[false,false,false,false,false,false,false,false] (by kernel_rfl) rfl rfl ⟨c1,c2⟩ (fun hHeld=>?_);refine pure_ (i:=0) (N:=some 14) (v:=?_) (a':=?_) #[true,false,false,false,false,false,false,false] rfl rfl (by kernel_rfl) (fun _ _ _ h=>h) (Or.inl ⟨by rfl,?_⟩) ?_ ?_
   rotate_left;·intro w';go_simp;with_reducible rfl
   rotate_left;·simp only [Act.put,q1_,q2_,q3_,i64_w,i32_w];rfl
   refine pure_ (i:=3) (N:=some 17) (v:=?_) (a':=?_) #[true,false,false,true,false,false,false,false] rfl rfl (by kernel_rfl) (fun _ _ _ h=>h) (Or.inl ⟨by rfl,?_⟩) ?_ ?_
   rotate_left;·intro w';go_simp;with_reducible rfl
   rotate_left;·simp only [Act.put,q1_,q2_,q3_,i64_w,i32_w];rfl
   refine take_ (i:=1) (N:=some 15) (v:=?_) (a':=?_) #[true,true,false,true,false,false,false,false] rfl rfl (by kernel_rfl) (fun _ _ _ h=>h) (Or.inl ⟨by rfl,?_⟩) hHeld ?_ ?_
   rotate_left
   ·rintro w' ⟨s0,s1⟩
    go_simp;with_reducible rfl
   rotate_left;·simp only [Act.put,q1_,q2_,q3_,i64_w,i32_w];rfl
   refine take_ (i:=4) (N:=some 18) (v:=?_) (a':=?_) #[true,true,false,true,true,false,false,false] rfl rfl (by kernel_rfl) (fun _ _ _ h=>h) (Or.inl ⟨by rfl,?_⟩) hHeld ?_ ?_
   rotate_left
   ·rintro w' ⟨s0,s1⟩
    go_simp;with_reducible rfl
   rotate_left;·simp only [Act.put,q1_,q2_,q3_,i64_w,i32_w];rfl
   refine join_ (σ:=Nat) 1 #[true,true,true,true,true,true,true,false] (fun s=>[(16,.int .i64 (kindN t2)),(19,.agg #[.int .i64 (kindN t2),.int .i64 t1,.string ⟨#[]⟩,.slice none 0 0,.slice none 0 0]),(6,.pointer (some ⟨s,0,none⟩))]) (fun s w'=>w'.heap[s]? =some (.cells #[.int .i64 0,.int .i64 0,.string ⟨#[]⟩,.slice none 0 0,.slice none 0 0] 86 (0,0))∧Y.heap.size≤s∧Below Y.heap.size Y w') ?_ ?_
   rotate_left
   ·intro hCont;refine two_ (i:=2) (j:=6) (Ni:=some 16) (Nj:=some 6) #[true,true,true,true,true,false,false,false] #[true,true,false,true,true,false,true,false] rfl rfl rfl rfl (by kernel_rfl) (by decide) (by decide) (fun K hK=>?_) (fun K hK=>?_)
    ·skip
     refine goes_ Tryd.func90 (by kernel_rfl) rfl #[.string t2] (by rfl) rfl rfl (by simp only [List.map_toArray,List.map_cons,List.map_nil];rfl) ?_
     with_reducible refine (kind_calls t2 _ (GL1.out.of_below (below_drew1 (Below.refl Y.heap.size Y)))).mono ?_
     rintro E w2 ⟨rfl,hb2⟩
     refine ⟨_,rfl,?_⟩;have HB2:Below Y.heap.size Y w2:=below_step (below_drew1 (Below.refl Y.heap.size Y)) hb2;refine hK.out _ _ ⟨(HS.out _ HB2).1,(HS.out _ HB2).2⟩ (fun hHeld=>?_);clear hK K;refine norm_ (a':=?_) ?_ ?_
     rotate_left
     ·show Act.put _ (some 16) _=_
      simp only [Act.put,q1_,q2_,q3_,i64_w,i32_w];rfl
     refine pure_ (i:=5) (N:=some 19) (v:=?_) (a':=?_) #[true,true,true,true,true,true,false,false] rfl rfl (by kernel_rfl) (fun _ _ _ h=>h) (Or.inl ⟨by rfl,?_⟩) ?_ ?_
     rotate_left;·intro w';go_simp;with_reducible rfl
     rotate_left;·simp only [Act.put,q1_,q2_,q3_,i64_w,i32_w];rfl
     refine one_ (i:=6) (N:=some 6) #[true,true,true,true,true,true,true,false] rfl rfl (by kernel_rfl) (by decide) (fun K hK=>?_);refine value_ (w1:=?_) (v:=?_) (by rfl) rfl ?_ ?_
     rotate_left 2
     ·go_simp;constructor
      ·rfl
      ·rfl
     refine hK.out _ _ ⟨(HS.out _ (below_alloc HB2 _)).1,(HS.out _ (below_alloc HB2 _)).2⟩ (fun hHeld=>?_);clear hK K;refine norm_ (a':=?_) ?_ ?_
     rotate_left
     ·show Act.put _ (some 6) _=_
      simp only [Act.put,q1_,q2_,q3_,i64_w,i32_w];rfl
     exact norm_ (by simp only [putAll,Act.put,q1_,q2_,q3_]) (hCont w2.heap.size _ ⟨blk_new w2 _,below_size HB2,below_alloc HB2 _⟩)
    ·skip
     refine value_ (w1:=?_) (v:=?_) (by rfl) rfl ?_ ?_
     rotate_left 2
     ·go_simp;constructor
      ·rfl
      ·rfl
     refine hK.out _ _ ⟨(HS.out _ (below_drew1 (below_alloc (Below.refl Y.heap.size Y) (.cells #[.int .i64 0,.int .i64 0,.string ⟨#[]⟩,.slice none 0 0,.slice none 0 0] 86)))).1,(HS.out _ (below_drew1 (below_alloc (Below.refl Y.heap.size Y) (.cells #[.int .i64 0,.int .i64 0,.string ⟨#[]⟩,.slice none 0 0,.slice none 0 0] 86)))).2⟩ (fun hHeld=>?_);clear hK K;refine norm_ (a':=?_) ?_ ?_
     rotate_left
     ·show Act.put _ (some 6) _=_
      simp only [Act.put,q1_,q2_,q3_,i64_w,i32_w];rfl
     refine one_ (i:=2) (N:=some 16) #[true,true,true,true,true,false,true,false] rfl rfl (by kernel_rfl) (by decide) (fun K hK=>?_);refine goes_ Tryd.func90 (by kernel_rfl) rfl #[.string t2] (by rfl) rfl rfl (by simp only [List.map_toArray,List.map_cons,List.map_nil];rfl) ?_
     with_reducible refine (kind_calls t2 _ (GL1.out.of_below (below_drew1 (below_alloc (Below.refl Y.heap.size Y) (.cells #[.int .i64 0,.int .i64 0,.string ⟨#[]⟩,.slice none 0 0,.slice none 0 0] 86))))).mono ?_
     rintro E w2 ⟨rfl,hb2⟩
     refine ⟨_,rfl,?_⟩;have HB2:Below Y.heap.size Y w2:=below_step (below_drew1 (below_alloc (Below.refl Y.heap.size Y) (.cells #[.int .i64 0,.int .i64 0,.string ⟨#[]⟩,.slice none 0 0,.slice none 0 0] 86))) hb2;refine hK.out _ _ ⟨(HS.out _ HB2).1,(HS.out _ HB2).2⟩ (fun hHeld=>?_);clear hK K;refine norm_ (a':=?_) ?_ ?_
     rotate_left
     ·show Act.put _ (some 16) _=_
      simp only [Act.put,q1_,q2_,q3_,i64_w,i32_w];rfl
     refine pure_ (i:=5) (N:=some 19) (v:=?_) (a':=?_) #[true,true,true,true,true,true,true,false] rfl rfl (by kernel_rfl) (fun _ _ _ h=>h) (Or.inl ⟨by rfl,?_⟩) ?_ ?_
     rotate_left;·intro w';go_simp;with_reducible rfl
     rotate_left;·simp only [Act.put,q1_,q2_,q3_,i64_w,i32_w];rfl
     exact norm_ (by simp only [putAll,Act.put,q1_,q2_,q3_]) (hCont Y.heap.size _ ⟨blk_below (blk_drew (blk_new Y (.cells #[.int .i64 0,.int .i64 0,.string ⟨#[]⟩,.slice none 0 0,.slice none 0 0] 86))) hb2,Nat.le_refl _,HB2⟩)
   rintro b6 w3 ⟨hz6,hl6,hy6⟩
   have hHeld:w3.cell? ⟨w1.heap.size,1,none⟩=some (.int .i64 t1)∧w3.cell? ⟨w1.heap.size,2,none⟩=some (.string t2):=HS.out _ hy6;have HZ6:=Aside0.mk hz6;have HL6:=Aside0.mk hl6;have HY6:=Aside0.mk hy6;have z0:=blk_cell hz6 0;have z1:=blk_cell hz6 1;have z2:=blk_cell hz6 2;have z3:=blk_cell hz6 3;have z4:=blk_cell hz6 4;have y0:=blk_frozen hz6 0;have y1:=blk_frozen hz6 1;have y2:=blk_frozen hz6 2;have y3:=blk_frozen hz6 3;have y4:=blk_frozen hz6 4;clear hz6 hl6 hy6;refine norm_ (a':=?_) ?_ ?_
   rotate_left;·simp only [putAll,Act.put,q1_,q2_,q3_];rfl
   refine one_ (i:=7) (N:=none) #[true,true,true,true,true,true,true,true] rfl rfl (by kernel_rfl) (by decide) (fun K hK=>?_);refine skip_ (w1:=?_) (by rfl) rfl ?_ ?_
   rotate_left;·go_simp;rfl
   refine hK.out _ _ ⟨(HS.out _ (Below.setCell (Below.setCell (Below.setCell (Below.setCell (Below.setCell HY6.out (p:=⟨b6,0,none⟩) HL6.out _) (p:=⟨b6,1,none⟩) HL6.out _) (p:=⟨b6,2,none⟩) HL6.out _) (p:=⟨b6,3,none⟩) HL6.out _) (p:=⟨b6,4,none⟩) HL6.out _)).1,(HS.out _ (Below.setCell (Below.setCell (Below.setCell (Below.setCell (Below.setCell HY6.out (p:=⟨b6,0,none⟩) HL6.out _) (p:=⟨b6,1,none⟩) HL6.out _) (p:=⟨b6,2,none⟩) HL6.out _) (p:=⟨b6,3,none⟩) HL6.out _) (p:=⟨b6,4,none⟩) HL6.out _)).2⟩ (fun hHeld=>?_);clear hK K;refine done_ (by kernel_rfl) ?_
   go_wp2
   go_meet
   case rel=>exact ⟨b6,rfl,Aside0.mk (blk_put (blk_put (blk_put (blk_put (blk_put HZ6.out 0 _ rfl) 1 _ rfl) 2 _ rfl) 3 _ rfl) 4 _ rfl),HL6,Aside0.mk (Below.setCell (Below.setCell (Below.setCell (Below.setCell (Below.setCell HY6.out (p:=⟨b6,0,none⟩) HL6.out _) (p:=⟨b6,1,none⟩) HL6.out _) (p:=⟨b6,2,none⟩) HL6.out _) (p:=⟨b6,3,none⟩) HL6.out _) (p:=⟨b6,4,none⟩) HL6.out _)⟩
  case rest=>
   obtain ⟨b6,rfl,HN6,HL6,HY6⟩:=hcut;obtain ⟨kk,hk1,hk2⟩: ∃ kk:Nat,kindN t2=(kk:Int)∧kk≤8:=by
    have:=kindN_le t2;exact ⟨(kindN t2).toNat,by omega,by omega⟩
   have hcons:l=⟨1,t1,t2⟩::l.tail:=by
    have:=nx_cons (l:=l) (e:=e) (by rw [HNX.out];show (1:Int)≠0;decide);rwa [HNX.out] at this
   have HSm:Aside0 (Sm w0 w wc g b6 (⟨1,t1,t2⟩::l.tail) e (.int .i64 kk) (.int .i64 t1) (.string ⟨#[]⟩) (.slice none 0 0) (.slice none 0 0)):=Aside0.mk (by
    rw [← hcons,← hk1];exact ⟨HP1.out.below HY6.out,KeepBut.of_below (below_step HB1.out HY6.out) g none,blk_below HN1.out HY6.out,HN6.out,Nat.lt_of_lt_of_le HLT0.out HL6.out,glt,below_size HP0.out.bel⟩)
   have HK1:=Aside0.mk hk1;have HK2:=Aside0.mk hk2;have HSP:Aside0 (stmtW e bl l=if (kk:Int)=0 then .bad t1 7 else if (kk:Int)≤6 then
     (if (nx l.tail e).f0=1∧nameB (nx l.tail e).f2.data.toList=true then .ok ⟨(kk:Int),t1,(nx l.tail e).f2,[],[]⟩ l.tail.tail else .bad (nx l.tail e).f1 7)
    else match bl l.tail with
    | .bad a b=>.bad a b
    | .ok A r=>
     if (kk:Int)=8 then .ok ⟨8,t1,⟨#[]⟩,A,[]⟩ r
     else if (nx r e).f2=elseT then match bl r.tail with
      | .bad a b=>.bad a b
      | .ok B r2=>.ok ⟨7,t1,⟨#[]⟩,A,B⟩ r2
     else .ok ⟨7,t1,⟨#[]⟩,A,[]⟩ r):=⟨by unfold stmtW;rw [HNX.out];simp only [hk1];rfl⟩
   have c6:=blk_cell HSm.out.n6 0;have HSH:=Aside0.mk (shape_calls kk hk2 wc);clear hk1 hk2 hcons HN6 HL6 HY6 HN1 HB1 HP1 HLT0 c0 c1 c2 HNX HP0 GL1 HS;go_wp2_with fail
   refine HSH.out.mono ?_
   rintro E w3 ⟨rfl,hb3⟩
   have HS3:=Aside0.mk (HSm.out.below hb3);clear HSm HSH hb3 c6;have hkk:=HK2.out;by_cases k0:kk=0
   ·subst k0;have HSP2:Aside0 (stmtW e bl l= .bad t1 7):=⟨by rw [HSP.out];exact if_pos rfl⟩;rw [show shapeN 0=0 from rfl];clear hkk HSP HK1 HK2;go_wp2_with fail
    refine (HS3.out.ps.fail_then HS3.out.kb 7).mono ?_
    rintro E w4 ⟨rfl,hb4,hk4⟩
    go_wp2_with fail
    refine ⟨rfl,?_⟩;rw [HSP2.out];exact ⟨rfl,hb4,hk4⟩
   by_cases k6:kk≤6
   ·rw [shape_n kk (by omega) (by omega)];have HSP1:Aside0 (stmtW e bl l=if (nx l.tail e).f0=1∧nameB (nx l.tail e).f2.data.toList=true then .ok ⟨(kk:Int),t1,(nx l.tail e).f2,[],[]⟩ l.tail.tail else .bad (nx l.tail e).f1 7):=⟨by
     rw [HSP.out,if_neg (by omega),if_pos (by omega)]⟩
    clear hkk k0 k6 HSP HK1 HK2;go_wp2_with fail
    refine (take_calls HS3.out.ps (show (1:Int)≠0 by decide)).mono ?_
    rintro E w4 ⟨rfl,hP4,hk4⟩
    have HS4:=Aside0.mk (HS3.out.step hP4 hk4);clear hP4 hk4 HS3;go_wp2_with fail
    by_cases hn:(nx l.tail e).f0=1∧nameB (nx l.tail e).f2.data.toList=true
    ·have HSP2:Aside0 (stmtW e bl l= .ok ⟨(kk:Int),t1,(nx l.tail e).f2,[],[]⟩ l.tail.tail):=⟨by rw [HSP1.out,if_pos hn]⟩;have hc2:=nx_cons (l:=l.tail) (e:=e) (by rw [hn.1];decide);have hP5:=HS4.out.ps;rw [hc2] at hP5;refine (name_ok hP5 HG.out hn.1 hn.2).mono ?_
     rintro E w5 ⟨rfl,hP6,hk6⟩
     have HS5:=Aside0.mk (HS4.out.step hP6 hk6);clear HSP1 hn hc2 hP5 hP6 hk6 HS4;generalize (nx l.tail e).f2=nm at HSP2 ⊢;have a0:=blk_cell HS5.out.n6 0;have a1:=blk_cell HS5.out.n6 1;have a2:=blk_cell HS5.out.n6 2;have a3:=blk_cell HS5.out.n6 3;have a4:=blk_cell HS5.out.n6 4;have z0:=blk_frozen HS5.out.n6 0;have z1:=blk_frozen HS5.out.n6 1;have z2:=blk_frozen HS5.out.n6 2;have z3:=blk_frozen HS5.out.n6 3;have z4:=blk_frozen HS5.out.n6 4;have a40:=blk_cell HS5.out.n4 0;have a41:=blk_cell HS5.out.n4 1;have a42:=blk_cell HS5.out.n4 2;have a43:=blk_cell HS5.out.n4 3;have a44:=blk_cell HS5.out.n4 4;have z40:=blk_frozen HS5.out.n4 0;have z41:=blk_frozen HS5.out.n4 1;have z42:=blk_frozen HS5.out.n4 2;have z43:=blk_frozen HS5.out.n4 3;have z44:=blk_frozen HS5.out.n4 4;go_upto_region 19 with fail
     have HS6:=Aside0.mk (HS5.out.put_ 2 (.string nm) rfl);clear a0 a1 a2 a3 a4 z0 z1 z2 z3 z4 a40 a41 a42 a43 a44 z40 z41 z42 z43 z44;generalize w5.setCell ⟨b6,2,none⟩ (.string nm)=w6 at HS6 ⊢;clear HS5;have a0:=blk_cell HS6.out.n6 0;have a1:=blk_cell HS6.out.n6 1;have a2:=blk_cell HS6.out.n6 2;have a3:=blk_cell HS6.out.n6 3;have a4:=blk_cell HS6.out.n6 4;have z0:=blk_frozen HS6.out.n6 0;have z1:=blk_frozen HS6.out.n6 1;have z2:=blk_frozen HS6.out.n6 2;have z3:=blk_frozen HS6.out.n6 3;have z4:=blk_frozen HS6.out.n6 4;have a40:=blk_cell HS6.out.n4 0;have a41:=blk_cell HS6.out.n4 1;have a42:=blk_cell HS6.out.n4 2;have a43:=blk_cell HS6.out.n4 3;have a44:=blk_cell HS6.out.n4 4;have z40:=blk_frozen HS6.out.n4 0;have z41:=blk_frozen HS6.out.n4 1;have z42:=blk_frozen HS6.out.n4 2;have z43:=blk_frozen HS6.out.n4 3;have z44:=blk_frozen HS6.out.n4 4;go_wp2_with fail
     clear a0 a1 a2 a3 a4 z0 z1 z2 z3 z4 a40 a41 a42 a43 a44 z40 z41 z42 z43 z44;obtain ⟨r0,r1,r2,r3,r4⟩:=HS6.out.end_ (Kd.R_nil _ _ _ _ _) (Kd.R_nil _ _ _ _ _);refine Go.bodyPost_ret (results_cell_row rfl _ _ w.heap.size 86 #[.int .i64 kk,.int .i64 t1,.string nm,.slice none 0 0,.slice none 0 0] (0,0) _ rfl (by exact r0) Tryd.underlying86 rfl (by kernel_rfl)) rfl ?_
     rw [HSP2.out];exact ⟨_,_,rfl,r1,r2,r3,r4⟩
    ·have HSP2:Aside0 (stmtW e bl l= .bad (nx l.tail e).f1 7):=⟨by rw [HSP1.out,if_neg hn]⟩;have hn2:(nx l.tail e).f0≠1∨(nx l.tail e).f0=1∧nameB (nx l.tail e).f2.data.toList=false:=by
      by_cases h1:(nx l.tail e).f0=1
      ·exact .inr ⟨h1,by simpa using fun h2=>hn ⟨h1,h2⟩⟩
      ·exact .inl h1
     refine (name_bad HS4.out.ps HG.out hn2).mono ?_
     rintro E w5 ⟨rfl,hb5,hk5⟩
     clear hn hn2;go_wp2_with fail
     refine ⟨rfl,?_⟩;rw [HSP2.out];exact ⟨rfl,hb5,HS4.out.kb.trans hk5 (.inl rfl)⟩
   by_cases k8:kk=8
   ·subst k8;have HSP1:Aside0 (stmtW e bl l=match bl l.tail with
      | .bad a b=>.bad a b
      | .ok A r=>.ok ⟨8,t1,⟨#[]⟩,A,[]⟩ r):=⟨by rw [HSP.out];rfl⟩
    rw [show shapeN 8=111 from rfl];clear hkk k0 k6 HSP HK1 HK2;go_wp2_with fail
    refine (take_calls HS3.out.ps (show (1:Int)≠0 by decide)).mono ?_
    rintro E w4 ⟨rfl,hP4,hk4⟩
    have HS4:=Aside0.mk (HS3.out.step hP4 hk4);clear hP4 hk4 HS3;go_wp2_with fail
    have HC:=Aside0.mk (HBL.out w4 l.tail HS4.out.ps (List.suffix_refl _));obtain ⟨ob,hob⟩: ∃ o,bl l.tail=o:=⟨_,rfl⟩;rw [hob] at HC;have HOB:=Aside0.mk hob;clear hob;cases ob with
    |bad xa xb=>
     have HSP2:Aside0 (stmtW e bl l= .bad xa xb):=⟨by rw [HSP1.out,HOB.out]⟩;refine HC.out.mono ?_
     rintro E w5 ⟨rfl,hb5,hk5⟩
     clear HC HOB;go_wp2_with fail
     refine ⟨rfl,?_⟩;rw [HSP2.out];exact ⟨rfl,hb5,HS4.out.kb.trans hk5 (.inl rfl)⟩
    |ok A r=>
     refine HC.out.mono ?_
     rintro E w5 ⟨vA,rfl,hA5,hP5,hk5⟩
     obtain ⟨aA,cA,rfl⟩:=Kd.R_slice hA5;have h46:w.heap.size<w4.heap.size:=blk_lt HS4.out.n4;have h66:b6<w4.heap.size:=blk_lt HS4.out.n6;have HS5:=Aside0.mk (HS4.out.step hP5 hk5);have HA5:Aside0 (Kd.R k86 86 w5 w.heap.size (fun k=>w.heap.size<k∧k≠b6) (.slice aA A.length cA) A):=Aside0.mk (Kd.R_lower (Kd.R_mono hA5 (fun k_ hk=>⟨by omega,by omega⟩)) (Nat.le_of_lt h46));clear HC hA5 hP5 hk5 HS4 h46 h66;have a0:=blk_cell HS5.out.n6 0;have a1:=blk_cell HS5.out.n6 1;have a2:=blk_cell HS5.out.n6 2;have a3:=blk_cell HS5.out.n6 3;have a4:=blk_cell HS5.out.n6 4;have z0:=blk_frozen HS5.out.n6 0;have z1:=blk_frozen HS5.out.n6 1;have z2:=blk_frozen HS5.out.n6 2;have z3:=blk_frozen HS5.out.n6 3;have z4:=blk_frozen HS5.out.n6 4;have a40:=blk_cell HS5.out.n4 0;have a41:=blk_cell HS5.out.n4 1;have a42:=blk_cell HS5.out.n4 2;have a43:=blk_cell HS5.out.n4 3;have a44:=blk_cell HS5.out.n4 4;have z40:=blk_frozen HS5.out.n4 0;have z41:=blk_frozen HS5.out.n4 1;have z42:=blk_frozen HS5.out.n4 2;have z43:=blk_frozen HS5.out.n4 3;have z44:=blk_frozen HS5.out.n4 4;have HSP2:Aside0 (stmtW e bl l= .ok ⟨8,t1,⟨#[]⟩,A,[]⟩ r):=⟨by rw [HSP1.out,HOB.out]⟩;go_upto_region 19 with fail
     have HS6:=Aside0.mk (HS5.out.put_ 3 (.slice aA A.length cA) rfl);have HA6:Aside0 (Kd.R k86 86 (w5.setCell ⟨b6,3,none⟩ (.slice aA A.length cA)) w.heap.size (fun k=>w.heap.size<k) (.slice aA A.length cA) A):=Aside0.mk (Kd.R_mono (Kd.R_far HA5.out (p:=⟨b6,3,none⟩) (fun k_ hk=>hk.2) (.slice aA A.length cA)) (fun k_ hk=>hk.1));clear a0 a1 a2 a3 a4 z0 z1 z2 z3 z4 a40 a41 a42 a43 a44 z40 z41 z42 z43 z44;generalize w5.setCell ⟨b6,3,none⟩ (.slice aA A.length cA)=w6 at HS6 HA6 ⊢;clear HS5 HA5;have a0:=blk_cell HS6.out.n6 0;have a1:=blk_cell HS6.out.n6 1;have a2:=blk_cell HS6.out.n6 2;have a3:=blk_cell HS6.out.n6 3;have a4:=blk_cell HS6.out.n6 4;have z0:=blk_frozen HS6.out.n6 0;have z1:=blk_frozen HS6.out.n6 1;have z2:=blk_frozen HS6.out.n6 2;have z3:=blk_frozen HS6.out.n6 3;have z4:=blk_frozen HS6.out.n6 4;have a40:=blk_cell HS6.out.n4 0;have a41:=blk_cell HS6.out.n4 1;have a42:=blk_cell HS6.out.n4 2;have a43:=blk_cell HS6.out.n4 3;have a44:=blk_cell HS6.out.n4 4;have z40:=blk_frozen HS6.out.n4 0;have z41:=blk_frozen HS6.out.n4 1;have z42:=blk_frozen HS6.out.n4 2;have z43:=blk_frozen HS6.out.n4 3;have z44:=blk_frozen HS6.out.n4 4;go_wp2_with fail
     clear a0 a1 a2 a3 a4 z0 z1 z2 z3 z4 a40 a41 a42 a43 a44 z40 z41 z42 z43 z44;obtain ⟨r0,r1,r2,r3,r4⟩:=HS6.out.end_ HA6.out (Kd.R_nil _ _ _ _ _);refine Go.bodyPost_ret (results_cell_row rfl _ _ w.heap.size 86 #[.int .i64 8,.int .i64 t1,.string ⟨#[]⟩,.slice aA A.length cA,.slice none 0 0] (0,0) _ rfl (by exact r0) Tryd.underlying86 rfl (by kernel_rfl)) rfl ?_
     rw [HSP2.out];exact ⟨_,_,rfl,r1,r2,r3,r4⟩
   obtain rfl:kk=7:=by omega
   have HSP1:Aside0 (stmtW e bl l=match bl l.tail with
     | .bad a b=>.bad a b
     | .ok A r=>if (nx r e).f2=elseT then (match bl r.tail with
      | .bad a b=>.bad a b
      | .ok B r2=>.ok ⟨7,t1,⟨#[]⟩,A,B⟩ r2) else .ok ⟨7,t1,⟨#[]⟩,A,[]⟩ r):=⟨by rw [HSP.out];rfl⟩
   rw [show shapeN 7=105 from rfl];clear hkk k0 k6 k8 HSP HK1 HK2;go_wp2_with fail
   refine (take_calls HS3.out.ps (show (1:Int)≠0 by decide)).mono ?_
   rintro E w4 ⟨rfl,hP4,hk4⟩
   have HS4:=Aside0.mk (HS3.out.step hP4 hk4);clear hP4 hk4 HS3;go_wp2_with fail
   have HC:=Aside0.mk (HBL.out w4 l.tail HS4.out.ps (List.suffix_refl _));obtain ⟨ob,hob⟩: ∃ o,bl l.tail=o:=⟨_,rfl⟩;rw [hob] at HC;have HOB:=Aside0.mk hob;clear hob;cases ob with
   |bad xa xb=>
    have HSP2:Aside0 (stmtW e bl l= .bad xa xb):=⟨by rw [HSP1.out,HOB.out]⟩;refine HC.out.mono ?_
    rintro E w5 ⟨rfl,hb5,hk5⟩
    clear HC HOB;go_wp2_with fail
    refine ⟨rfl,?_⟩;rw [HSP2.out];exact ⟨rfl,hb5,HS4.out.kb.trans hk5 (.inl rfl)⟩
   |ok A r=>
    refine HC.out.mono ?_
    rintro E w5 ⟨vA,rfl,hA5,hP5,hk5⟩
    obtain ⟨aA,cA,rfl⟩:=Kd.R_slice hA5;have h46:w.heap.size<w4.heap.size:=blk_lt HS4.out.n4;have h66:b6<w4.heap.size:=blk_lt HS4.out.n6;have HS5:=Aside0.mk (HS4.out.step hP5 hk5);have HA5:Aside0 (Kd.R k86 86 w5 w.heap.size (fun k=>w.heap.size<k∧k≠b6) (.slice aA A.length cA) A):=Aside0.mk (Kd.R_lower (Kd.R_mono hA5 (fun k_ hk=>⟨by omega,by omega⟩)) (Nat.le_of_lt h46));clear HC hA5 hP5 hk5 HS4 h46 h66;have a0:=blk_cell HS5.out.n6 0;have a1:=blk_cell HS5.out.n6 1;have a2:=blk_cell HS5.out.n6 2;have a3:=blk_cell HS5.out.n6 3;have a4:=blk_cell HS5.out.n6 4;have z0:=blk_frozen HS5.out.n6 0;have z1:=blk_frozen HS5.out.n6 1;have z2:=blk_frozen HS5.out.n6 2;have z3:=blk_frozen HS5.out.n6 3;have z4:=blk_frozen HS5.out.n6 4;have a40:=blk_cell HS5.out.n4 0;have a41:=blk_cell HS5.out.n4 1;have a42:=blk_cell HS5.out.n4 2;have a43:=blk_cell HS5.out.n4 3;have a44:=blk_cell HS5.out.n4 4;have z40:=blk_frozen HS5.out.n4 0;have z41:=blk_frozen HS5.out.n4 1;have z42:=blk_frozen HS5.out.n4 2;have z43:=blk_frozen HS5.out.n4 3;have z44:=blk_frozen HS5.out.n4 4;have HSP3:Aside0 (stmtW e bl l=if (nx r e).f2=elseT then (match bl r.tail with
      | .bad a b=>.bad a b
      | .ok B r2=>.ok ⟨7,t1,⟨#[]⟩,A,B⟩ r2) else .ok ⟨7,t1,⟨#[]⟩,A,[]⟩ r):=⟨by rw [HSP1.out,HOB.out]⟩
    have HRS:=Aside0.mk (HSUF.out _ _ _ HOB.out);clear HSP1 HOB;go_upto_region 16 with fail
    have HS6:=Aside0.mk (HS5.out.put_ 3 (.slice aA A.length cA) rfl);have HA6:Aside0 (Kd.R k86 86 (w5.setCell ⟨b6,3,none⟩ (.slice aA A.length cA)) w.heap.size (fun k=>w.heap.size<k∧k≠b6) (.slice aA A.length cA) A):=Aside0.mk (Kd.R_mono (Kd.R_far HA5.out (p:=⟨b6,3,none⟩) (fun k_ hk=>hk.2) (.slice aA A.length cA)) (fun k_ hk=>hk));clear a0 a1 a2 a3 a4 z0 z1 z2 z3 z4 a40 a41 a42 a43 a44 z40 z41 z42 z43 z44;generalize w5.setCell ⟨b6,3,none⟩ (.slice aA A.length cA)=w6 at HS6 HA6 ⊢;clear HS5 HA5;obtain ⟨⟨n0,n1,n2⟩,hnr⟩: ∃ t,nx r e=t:=⟨_,rfl⟩;have HNR:=Aside0.mk hnr;have HNC:Aside0 (Calls Tryd.prog 61 #[.pointer (some ⟨g,0,none⟩)] w6 fun E w'=>E= .returned (.agg #[.int .i64 n0,.int .i64 n1,.string n2])∧Below w6.heap.size w6 w'):=Aside0.mk (by
     have:=next_calls HS6.out.ps;rwa [hnr] at this)
    have hfd: ∀ W,(Instr.field 108 (.agg #[.int .i64 n0,.int .i64 n1,.string n2]) 2).run Tryd.prog W= .ok (.string n2) W:=fun W=>by rfl
    clear hnr;go_wp2_with fail
    refine HNC.out.mono ?_
    rintro E w7 ⟨rfl,hb7⟩
    have HS7:=Aside0.mk (HS6.out.below hb7);have HA7:=Aside0.mk (Kd.R_below HA6.out hb7);clear HNC hb7 HS6 HA6;by_cases hel:n2=elseT
    ·subst hel;have HSP4:Aside0 (stmtW e bl l=match bl r.tail with
      | .bad a b=>.bad a b
      | .ok B r2=>.ok ⟨7,t1,⟨#[]⟩,A,B⟩ r2):=⟨by rw [HSP3.out,HNR.out];exact if_pos rfl⟩
     have hrc:r=⟨n0,n1,elseT⟩::r.tail:=by
      have h1:=HNR.out;cases r with
      |nil=>
       have:=congrArg (fun t=>t.f2.size) h1;exact absurd (show (0:Nat)=4 from this) (by decide)
      |cons t q=>exact congrArg (· ::q) h1
     have hn0:n0≠0:=by
      have h1:(⟨n0,n1,elseT⟩:Tok6)∈l:=(HRS.out.trans (tail_suf l)).subset (by rw [hrc];exact List.mem_cons_self);exact HKD.out _ h1
     have hP7:=HS7.out.ps;rw [hrc] at hP7;have HP7:=Aside0.mk hP7;have HN0:=Aside0.mk hn0;have HRT:Aside0 (r.tail<:+l.tail):=Aside0.mk ((tail_suf r).trans HRS.out);have hdc:(elseT=⟨#[101,108,115,101]⟩):=rfl;clear hrc hn0 hP7 HSP3 HNR HRS;rw [hdc];rw [hdc] at HP7;have hfd2: ∀ W,(Instr.field 108 (.agg #[.int .i64 n0,.int .i64 n1,.string ⟨#[101,108,115,101]⟩]) 2).run Tryd.prog W= .ok (.string ⟨#[101,108,115,101]⟩) W:=fun W=>by rfl
     clear hdc hfd;go_wp2_with fail
     refine (take_calls HP7.out HN0.out).mono ?_
     rintro E w8 ⟨rfl,hP8,hk8⟩
     have HS8:=Aside0.mk (HS7.out.step hP8 hk8);have HA8:=Aside0.mk (Kd.R_keep HA7.out hk8 (fun k_ hk=>by have:=HS7.out.gl;omega));clear hP8 hk8 HS7 HA7 HP7 HN0;go_wp2_with fail
     have HC:=Aside0.mk (HBL.out w8 r.tail HS8.out.ps HRT.out);obtain ⟨oc,hoc⟩: ∃ o,bl r.tail=o:=⟨_,rfl⟩;rw [hoc] at HC;have HOC:=Aside0.mk hoc;clear hoc;cases oc with
     |bad xa xb=>
      have HSP2:Aside0 (stmtW e bl l= .bad xa xb):=⟨by rw [HSP4.out,HOC.out]⟩;refine HC.out.mono ?_
      rintro E w9 ⟨rfl,hb9,hk9⟩
      clear HC HOC;go_wp2_with fail
      refine ⟨rfl,?_⟩;rw [HSP2.out];exact ⟨rfl,hb9,HS8.out.kb.trans hk9 (.inl rfl)⟩
     |ok B r2=>
      refine HC.out.mono ?_
      rintro E w9 ⟨vB,rfl,hB9,hP9,hk9⟩
      obtain ⟨aB,cB,rfl⟩:=Kd.R_slice hB9;have h48:w.heap.size<w8.heap.size:=blk_lt HS8.out.n4;have h68:b6<w8.heap.size:=blk_lt HS8.out.n6;have HS9:=Aside0.mk (HS8.out.step hP9 hk9);have HB9:Aside0 (Kd.R k86 86 w9 w.heap.size (fun k=>w.heap.size<k∧k≠b6) (.slice aB B.length cB) B):=Aside0.mk (Kd.R_lower (Kd.R_mono hB9 (fun k_ hk=>⟨by omega,by omega⟩)) (Nat.le_of_lt h48));have HA9:=Aside0.mk (Kd.R_keep HA8.out hk9 (fun k_ hk=>by have:=HS8.out.gl;omega));have HSP2:Aside0 (stmtW e bl l= .ok ⟨7,t1,⟨#[]⟩,A,B⟩ r2):=⟨by rw [HSP4.out,HOC.out]⟩;clear HC hB9 hP9 hk9 HS8 HA8 h48 h68 HOC HSP4;have a0:=blk_cell HS9.out.n6 0;have a1:=blk_cell HS9.out.n6 1;have a2:=blk_cell HS9.out.n6 2;have a3:=blk_cell HS9.out.n6 3;have a4:=blk_cell HS9.out.n6 4;have z0:=blk_frozen HS9.out.n6 0;have z1:=blk_frozen HS9.out.n6 1;have z2:=blk_frozen HS9.out.n6 2;have z3:=blk_frozen HS9.out.n6 3;have z4:=blk_frozen HS9.out.n6 4;have a40:=blk_cell HS9.out.n4 0;have a41:=blk_cell HS9.out.n4 1;have a42:=blk_cell HS9.out.n4 2;have a43:=blk_cell HS9.out.n4 3;have a44:=blk_cell HS9.out.n4 4;have z40:=blk_frozen HS9.out.n4 0;have z41:=blk_frozen HS9.out.n4 1;have z42:=blk_frozen HS9.out.n4 2;have z43:=blk_frozen HS9.out.n4 3;have z44:=blk_frozen HS9.out.n4 4;go_upto_region 19 with fail
      have HS10:=Aside0.mk (HS9.out.put_ 4 (.slice aB B.length cB) rfl);have HA10:Aside0 (Kd.R k86 86 (w9.setCell ⟨b6,4,none⟩ (.slice aB B.length cB)) w.heap.size (fun k=>w.heap.size<k) (.slice aA A.length cA) A):=Aside0.mk (Kd.R_mono (Kd.R_far HA9.out (p:=⟨b6,4,none⟩) (fun k_ hk=>hk.2) (.slice aB B.length cB)) (fun k_ hk=>hk.1));have HB10:Aside0 (Kd.R k86 86 (w9.setCell ⟨b6,4,none⟩ (.slice aB B.length cB)) w.heap.size (fun k=>w.heap.size<k) (.slice aB B.length cB) B):=Aside0.mk (Kd.R_mono (Kd.R_far HB9.out (p:=⟨b6,4,none⟩) (fun k_ hk=>hk.2) (.slice aB B.length cB)) (fun k_ hk=>hk.1));clear a0 a1 a2 a3 a4 z0 z1 z2 z3 z4 a40 a41 a42 a43 a44 z40 z41 z42 z43 z44;generalize w9.setCell ⟨b6,4,none⟩ (.slice aB B.length cB)=w10 at HS10 HA10 HB10 ⊢;clear HS9 HA9 HB9;have a0:=blk_cell HS10.out.n6 0;have a1:=blk_cell HS10.out.n6 1;have a2:=blk_cell HS10.out.n6 2;have a3:=blk_cell HS10.out.n6 3;have a4:=blk_cell HS10.out.n6 4;have z0:=blk_frozen HS10.out.n6 0;have z1:=blk_frozen HS10.out.n6 1;have z2:=blk_frozen HS10.out.n6 2;have z3:=blk_frozen HS10.out.n6 3;have z4:=blk_frozen HS10.out.n6 4;have a40:=blk_cell HS10.out.n4 0;have a41:=blk_cell HS10.out.n4 1;have a42:=blk_cell HS10.out.n4 2;have a43:=blk_cell HS10.out.n4 3;have a44:=blk_cell HS10.out.n4 4;have z40:=blk_frozen HS10.out.n4 0;have z41:=blk_frozen HS10.out.n4 1;have z42:=blk_frozen HS10.out.n4 2;have z43:=blk_frozen HS10.out.n4 3;have z44:=blk_frozen HS10.out.n4 4;go_wp2_with fail
      clear a0 a1 a2 a3 a4 z0 z1 z2 z3 z4 a40 a41 a42 a43 a44 z40 z41 z42 z43 z44;obtain ⟨r0,r1,r2,r3,r4⟩:=HS10.out.end_ HA10.out HB10.out;refine Go.bodyPost_ret (results_cell_row rfl _ _ w.heap.size 86 #[.int .i64 7,.int .i64 t1,.string ⟨#[]⟩,.slice aA A.length cA,.slice aB B.length cB] (0,0) _ rfl (by exact r0) Tryd.underlying86 rfl (by kernel_rfl)) rfl ?_
      rw [HSP2.out];exact ⟨_,_,rfl,r1,r2,r3,r4⟩
    ·have HSP2:Aside0 (stmtW e bl l= .ok ⟨7,t1,⟨#[]⟩,A,[]⟩ r):=⟨by rw [HSP3.out,HNR.out];exact if_neg hel⟩;have hne: ¬ n2.toList= [101,108,115,101]:=fun hq=>hel (by
      rw [ByteArray.toList_eq] at hq;cases n2
      simp only [elseT,ByteArray.mk.injEq];exact Array.ext' hq)
     have hnb:(n2.toList== [101,108,115,101])=false:=beq_eq_false_iff_ne.mpr hne;have HA8:Aside0 (Kd.R k86 86 w7 w.heap.size (fun k=>w.heap.size<k) (.slice aA A.length cA) A):=Aside0.mk (Kd.R_mono HA7.out (fun k_ hk=>hk.1));clear hel HA7 HSP3 HNR HRS;have a0:=blk_cell HS7.out.n6 0;have a1:=blk_cell HS7.out.n6 1;have a2:=blk_cell HS7.out.n6 2;have a3:=blk_cell HS7.out.n6 3;have a4:=blk_cell HS7.out.n6 4;have z0:=blk_frozen HS7.out.n6 0;have z1:=blk_frozen HS7.out.n6 1;have z2:=blk_frozen HS7.out.n6 2;have z3:=blk_frozen HS7.out.n6 3;have z4:=blk_frozen HS7.out.n6 4;have a40:=blk_cell HS7.out.n4 0;have a41:=blk_cell HS7.out.n4 1;have a42:=blk_cell HS7.out.n4 2;have a43:=blk_cell HS7.out.n4 3;have a44:=blk_cell HS7.out.n4 4;have z40:=blk_frozen HS7.out.n4 0;have z41:=blk_frozen HS7.out.n4 1;have z42:=blk_frozen HS7.out.n4 2;have z43:=blk_frozen HS7.out.n4 3;have z44:=blk_frozen HS7.out.n4 4;go_wp2_with fail
     clear a0 a1 a2 a3 a4 z0 z1 z2 z3 z4 a40 a41 a42 a43 a44 z40 z41 z42 z43 z44;obtain ⟨r0,r1,r2,r3,r4⟩:=HS7.out.end_ HA8.out (Kd.R_nil _ _ _ _ _);refine Go.bodyPost_ret (results_cell_row rfl _ _ w.heap.size 86 #[.int .i64 7,.int .i64 t1,.string ⟨#[]⟩,.slice aA A.length cA,.slice none 0 0] (0,0) _ rfl (by exact r0) Tryd.underlying86 rfl (by kernel_rfl)) rfl ?_
     rw [HSP2.out];exact ⟨_,_,rfl,r1,r2,r3,r4⟩
 ·have q:(t0 !=1)=true:=bne_iff_ne.mpr ht;have HS:Aside0 (stmtW e bl l= .bad t1 7):=⟨by unfold stmtW;rw [HNX.out,if_pos ht]⟩;rw [HS.out];clear ht;go_wp2_with fail
  refine (HP1.out.fail_then (KeepBut.of_below HB1.out g none) 7).mono ?_
  rintro E w2 ⟨rfl,hb2,hk2⟩
  rw [HNX.out];go_wp2_with fail
  refine ⟨rfl,?_⟩;rw [HS.out];exact ⟨rfl,hb2,hk2⟩
theorem Ps.grown {w0 w w':World} {g:Nat} {l:List Tok6} {e:Int} {row:Option Nat} (h:Ps w0 w g l e) (hg:w.grownBy w' row) (hr: ∀ k,row=some k→w0.heap.size≤k∧k≠g):Ps w0 w' g l e:=by
 obtain ⟨A,c,h1,h2,h3⟩:=h.blk;exact ⟨⟨A,c,blk_grown h1 hg (fun he=>(hr g he.symm).2 rfl),h2,h3⟩,h.ge,Below.grown h.bel hg (below_size h.bel) (fun k hk=>(hr k hk).1)⟩
theorem consO_nil (o:Out (List St6)):consO [] o=o:=by cases o <;> rfl
theorem consO_step (acc:List St6) (s:St6) (k:List Tok6→Out (List St6)) (r:List Tok6):consO acc (thenS k (.ok s r))=consO (acc++ [s]) (k r):=by
 simp only [thenS];cases k r
 ·simp [consO]
 ·rfl
def BlockRel (w0 w:World) (g:Nat) (e deep:Int) (tot:Out (List St6)) (L:List Tok6) (N n:Nat) (v:Value) (wr:World):Prop:=
 ∃ l acc,Aside0 (Kd.R k86 86 wr w.heap.size (fun k=>w.heap.size≤k) v acc)∧Aside0 (Ps w0 wr g l e)∧Aside0 (KeepBut w wr g none)∧Aside0 (consO acc (stmtsP e n deep l)=tot)∧
  Aside0 (l<:+L∧l.length<n∧acc.length+l.length≤L.length∧n≤N)
set_option maxRecDepth 100000 in
set_option maxHeartbeats 3200000 in
theorem block_calls {w0:World} {g:Nat} {e:Int} (hG:GL w0): ∀ (n:Nat) (w:World) (l:List Tok6) (deep:Int),Ps w0 w g l e→(∀ t∈l,t.f0≠0)→l.length≤n→l.length≤1000000→0≤deep→deep≤20→
  Calls Tryd.prog 64 #[.pointer (some ⟨g,0,none⟩),.int .i64 deep] w (BlockPost w0 w g e (blockW e (stmtsP e n) deep l)):=by
 intro n;induction n using Nat.strongRecOn with
 |_ n ih=>
 intro w l deep h hkd hn hL hd0 hd20;have hu:=Tryd.underlying108;have hu86:=Tryd.underlying86;have IH:=Aside0.mk ih;have HKD:=Aside0.mk hkd;have HG:=Aside0.mk hG;have HP:=Aside0.mk h;have glt:=h.lt;have HGE:=Aside0.mk (below_size h.bel);have HN:=Aside0.mk hn;have HL:=Aside0.mk hL;clear ih hkd h hn hL;obtain ⟨⟨t0,t1,t2⟩,hnx⟩: ∃ t,nx l e=t:=⟨_,rfl⟩;have HNX:=Aside0.mk hnx;have HNC:Aside0 (Calls Tryd.prog 61 #[.pointer (some ⟨g,0,none⟩)] w fun E w'=>E= .returned (.agg #[.int .i64 t0,.int .i64 t1,.string t2])∧Below w.heap.size w w'):=Aside0.mk (by
  have:=next_calls HP.out;rwa [hnx] at this)
 have hfd: ∀ W,(Instr.field 108 (.agg #[.int .i64 t0,.int .i64 t1,.string t2]) 0).run Tryd.prog W= .ok (.int .i64 t0) W:=fun W=>by rfl
 clear hnx;go_enter Tryd.func64,Tryd.ntmps64
 go_wp2_with fail
 refine HNC.out.mono ?_
 rintro E w1 ⟨rfl,hb1⟩
 have HP1:=Aside0.mk (HP.out.below hb1);have HK1:=Aside0.mk (KeepBut.of_below hb1 g none);clear HNC hb1;by_cases ht:t0=2
 ·subst ht;by_cases hd:20≤deep
  ·have HS:Aside0 (blockW e (stmtsP e n) deep l= .bad t1 8):=⟨by unfold blockW;rw [HNX.out,if_neg (by simp),if_pos hd]⟩;obtain rfl:deep=20:=by omega
   clear hd hd0 hd20;go_wp2_with fail
   refine (HP1.out.fail_then HK1.out 8).mono ?_
   rintro E w2 ⟨rfl,hb2,hk2⟩
   rw [HNX.out];go_wp2_with fail
   refine ⟨rfl,?_⟩;rw [HS.out];exact ⟨rfl,hb2,hk2⟩
  ·have HS:Aside0 (blockW e (stmtsP e n) deep l=stmtsP e n (deep+1) l.tail):=⟨by unfold blockW;rw [HNX.out,if_neg (by simp),if_neg hd]⟩;have hd19:deep<20:=by omega
   have qd:decide (20≤deep)=false:=decide_eq_false hd;have hcons:l=⟨2,t1,t2⟩::l.tail:=by
    have:=nx_cons (l:=l) (e:=e) (by rw [HNX.out];show (2:Int)≠0;decide);rwa [HNX.out] at this
   have HPc:=HP1.out;rw [hcons] at HPc;have HP2:=Aside0.mk HPc;have HLL:Aside0 (l.length=l.tail.length+1):=Aside0.mk (congrArg List.length hcons);clear hcons HPc hd;go_wp2_with fail
   refine (take_calls HP2.out (show (2:Int)≠0 by decide)).mono ?_
   rintro E w2 ⟨rfl,hP3,hk3⟩
   have HP3:=Aside0.mk hP3;have HK3:=Aside0.mk (HK1.out.trans hk3 (.inl rfl));clear hP3 hk3 HP2 HP1 HK1;clear hfd HNX HP;go_wp2_with fail
   go_loopg [5] n (fun n' v5 wr=>BlockRel w0 w g e (deep+1) (stmtsP e n (deep+1) l.tail) l.tail n n' v5 wr)
   case atStart=>exact ⟨l.tail,[],⟨Kd.R_nil _ _ _ _ _⟩,HP3,HK3,⟨consO_nil _⟩,⟨List.suffix_refl _,by have:=HLL.out;have:=HN.out;omega,by simp,Nat.le_refl _⟩⟩
   case round=>
    obtain ⟨l',acc,HR,HPr,HKr,HE,HI⟩:=hrel;cases gk with
    |zero=>exact absurd HI.out.2.1 (by omega)
    |succ n1=>
    obtain ⟨⟨m0,m1,m2⟩,hnx⟩: ∃ t,nx l' e=t:=⟨_,rfl⟩;have HNX:=Aside0.mk hnx;have HNC:Aside0 (Calls Tryd.prog 61 #[.pointer (some ⟨g,0,none⟩)] wr fun E w'=>E= .returned (.agg #[.int .i64 m0,.int .i64 m1,.string m2])∧Below wr.heap.size wr w'):=Aside0.mk (by
     have:=next_calls HPr.out;rwa [hnx] at this)
    have hfd: ∀ W,(Instr.field 108 (.agg #[.int .i64 m0,.int .i64 m1,.string m2]) 0).run Tryd.prog W= .ok (.int .i64 m0) W:=fun W=>by rfl
    clear hnx;obtain ⟨a5,c5,rfl⟩:=Kd.R_slice HR.out;go_wp2_with fail
    refine HNC.out.mono ?_
    rintro E w3 ⟨rfl,hb3⟩
    have HPs:=Aside0.mk (HPr.out.below hb3);have HKs:=Aside0.mk (HKr.out.trans (KeepBut.of_below hb3 g none) (.inl rfl));have HRs:=Aside0.mk (Kd.R_below HR.out hb3);clear HNC hb3 HPr HKr HR;by_cases hm:m0=3
    ·subst hm;have HT:Aside0 (stmtsP e n (deep+1) l.tail= .ok acc l'.tail):=⟨by
      rw [← HE.out];simp only [stmtsP];rw [HNX.out,if_pos rfl];simp [consO]⟩
     have hcons:l'=⟨3,m1,m2⟩::l'.tail:=by
      have:=nx_cons (l:=l') (e:=e) (by rw [HNX.out];show (3:Int)≠0;decide);rwa [HNX.out] at this
     have hPc:=HPs.out;rw [hcons] at hPc;have HPc:=Aside0.mk hPc;clear hcons hPc HE HI HNX;go_wp2_with fail
     refine (take_calls HPc.out (show (3:Int)≠0 by decide)).mono ?_
     rintro E w4 ⟨rfl,hP5,hk5⟩
     have HR5:=Aside0.mk (Kd.R_keep HRs.out hk5 (fun k_ hk=>by omega));have HP5:=Aside0.mk hP5;have HK5:=Aside0.mk (HKs.out.trans hk5 (.inl rfl));clear hP5 hk5;go_wp2_with fail
     go_ret
     show BlockPost w0 w g e _ _ _
     rw [HS.out,HT.out];exact ⟨_,rfl,HR5.out,HP5.out,HK5.out⟩
    ·have q:(m0 !=3)=true:=bne_iff_ne.mpr hm;have hI:=HI.out;have hL:=HL.out;have hLL:=HLL.out;have hkd: ∀ t∈l',t.f0≠0:=fun t ht=>HKD.out t ((hI.1.trans (tail_suf l)).subset ht)
     have HST:=stmt_of (deep:=deep+1) (blockW e (stmtsP e n1) (deep+1)) (fun l A r hb=>blockW_suf (fun d l A r hb2=>stmtsP_suf n1 hb2) hb)
      (fun w r hP hr=>IH.out n1 (by omega) w r (deep+1) hP (fun t ht=>hkd t ((hr.trans (tail_suf l')).subset ht)) (by have:=hr.length_le;have:l'.tail.length=l'.length - 1:=List.length_tail;omega) (by have:=hr.length_le;have:l'.tail.length=l'.length - 1:=List.length_tail;omega) (by omega) (by omega))
      HPs.out hkd hG
     obtain ⟨os,hos⟩: ∃ o,stmtW e (blockW e (stmtsP e n1) (deep+1)) l'=o:=⟨_,rfl⟩;rw [hos] at HST;have HE2:Aside0 (consO acc (thenS (stmtsP e n1 (deep+1)) os)=stmtsP e n (deep+1) l.tail):=⟨by
      rw [← HE.out,← hos];simp only [stmtsP];rw [HNX.out,if_neg hm]⟩
     have hsf: ∀ s r,os= .ok s r→r<:+l'.tail:=fun s r h=>stmtW_suf (fun l A r hb=>blockW_suf (fun d l A r hb2=>stmtsP_suf n1 hb2) hb) (hos.trans h)
     have HSF:=Aside0.mk hsf;have HSTA:=Aside0.mk HST;have HL0:Aside0 (∀ s r,os= .ok s r→0<l'.length):=Aside0.mk fun s r h=>stmtW_ne (hos.trans h)
     clear hI hL hLL hkd HST hos hsf hm HE HNX;go_wp2_with fail
     refine HSTA.out.mono ?_
     cases os with
     |bad xa xb=>
      rintro E w4 ⟨rfl,hb4,hk4⟩
      clear HSTA;go_wp2_with fail
      refine ⟨rfl,?_⟩;show BlockPost w0 w g e _ _ _
      rw [HS.out,← HE2.out];exact ⟨rfl,hb4,HKs.out.trans hk4 (.inl rfl)⟩
     |ok s r=>
      rintro E w4 ⟨vA,vB,rfl,hA4,hB4,hP4,hk4⟩
      obtain ⟨aA,cA,rfl⟩:=Kd.R_slice hA4;obtain ⟨aB,cB,rfl⟩:=Kd.R_slice hB4;have h3w:w.heap.size≤w3.heap.size:=HKs.out.1;have HKs3:=Aside0.mk h3w;have HM4:Aside0 (k86.M w4 w.heap.size (fun k=>w3.heap.size≤k) s [.int .i64 s.f0,.int .i64 s.f1,.string s.f2,.slice aA s.f3.length cA,.slice aB s.f4.length cB]):=Aside0.mk (k86_mkM w4 w.heap.size _ s (Kd.R_lower hA4 h3w) (Kd.R_lower hB4 h3w));have HO4:=Aside0.mk (Kd.R_keep HRs.out hk4 (fun k_ hk=>by omega));have hob: ∀ k,(Value.slice a5 acc.length c5).ownBlock=some k→w.heap.size≤k∧k<w3.heap.size:=fun k hk=>by
       have h1:=(Kd.R_bound HRs.out).1 k hk;exact ⟨h1.1,h1.2.2.1⟩
      have HOB:=Aside0.mk hob;have HP4:=Aside0.mk hP4;have HK4:=Aside0.mk (HKs.out.trans hk4 (.inl rfl));have HLN:Aside0 (r<:+l'.tail∧0<l'.length):=Aside0.mk ⟨HSF.out s r rfl,HL0.out s r rfl⟩;have HLA:Aside0 (acc.length≤1000000):=Aside0.mk (by have:=HI.out;have:=HL.out;have:=HLL.out;omega);clear HSTA hA4 hB4 hP4 hk4 HRs HKs HPs h3w hob HSF HL0;go_wp2_with (((with_reducible refine gate_builtin (b:=.append) (xs:=#[.tmp 22,.tmp 27]) rfl ?_);at_builtin;refine Kd.R_append k86 (w0:=w4) w.heap.size rfl (.tmp 22) (.tmp 27) 44 86 (.agg #[(.int .i64 0),(.int .i64 0),(.string ⟨#[]⟩),(.slice none 0 0),(.slice none 0 0)]) 80 rfl Tryd.underlying44 info86 rfl (by decide) (by omega) (.slice a5 acc.length c5) acc s [.int .i64 s.f0,.int .i64 s.f1,.string s.f2,.slice aA s.f3.length cA,.slice aB s.f4.length cB] (fun k_=>w.heap.size≤k_) (fun k_=>w3.heap.size≤k_) rfl (by first|(go_simp;done)|(go_simp;rfl)) ?aP ?aK ?aF ?aO ?aB ?aS ?aL ?_;(case aP=>exact HM4.out);(case aK=>exact (fun k_ hk=>⟨Nat.le_trans HKs3.out hk,fun he=>by have:=(HOB.out k_ he.symm).2;omega⟩));(case aF=>exact (fun k_ hk=>Nat.le_trans HK4.out.1 hk));(case aO=>exact HO4.out);(case aB=>exact Below.refl _ _);(case aS=>exact HK4.out.1);(case aL=>have:=HLA.out;omega);intro v6 w5 ho hb hg hat;have HO5:=Aside0.mk ho;have HG5:=Aside0.mk hg;clear ho hb hg hat))
      go_roundg n1
      case rel=>
       have hob:=HOB.out;have hps:=HP4.out;have h0:w0.heap.size≤w.heap.size:=HGE.out;refine ⟨r,acc++ [s],HO5,Aside0.mk (hps.grown HG5.out (fun k hk=>⟨Nat.le_trans h0 (hob k hk).1,by have:=(hob k hk).1;omega⟩)),Aside0.mk (HK4.out.trans (KeepBut.of_grown HG5.out g) ?_),⟨by rw [← consO_step];exact HE2.out⟩,Aside0.mk ?_⟩
       ·cases hk:(Value.slice a5 acc.length c5).ownBlock with
        |none=>exact .inl rfl
        |some b=>exact .inr ⟨b,rfl,(hob b hk).1⟩
       ·have h1:=HLN.out;have h2:=HI.out;have h3:=h1.1.length_le;have h4:l'.tail.length=l'.length - 1:=List.length_tail;refine ⟨(h1.1.trans (tail_suf l')).trans h2.1,by omega,?_,by omega⟩;rw [List.length_append,List.length_singleton];omega
      case measure=>omega
 ·have q:(t0 !=2)=true:=bne_iff_ne.mpr ht;have HS:Aside0 (blockW e (stmtsP e n) deep l= .bad t1 7):=⟨by unfold blockW;rw [HNX.out,if_pos ht]⟩;clear ht;go_wp2_with fail
  refine (HP1.out.fail_then HK1.out 7).mono ?_
  rintro E w2 ⟨rfl,hb2,hk2⟩
  rw [HNX.out];go_wp2_with fail
  refine ⟨rfl,?_⟩;rw [HS.out];exact ⟨rfl,hb2,hk2⟩
end Go.Proofs.YtkmafndljelopaaDoor.Q
