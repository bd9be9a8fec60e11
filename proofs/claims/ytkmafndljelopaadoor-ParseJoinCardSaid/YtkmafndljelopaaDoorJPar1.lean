/- Par1: put together by wip/merge.py. -/
import Derived.Test.YtkmafndljelopaaDoorJQ1
import Derived.Test.YtkmafndljelopaaDoorJLexName
import Derived.Test.YtkmafndljelopaaDoorJGL
import Derived.Recover
import Derived.Defers
import Derived.WalkSpells
import Derived.WalkLawsBesides
import Derived.Test.YtkmafndljelopaaDoorJEv
import Derived.Lib.OthersKept
import Derived.Deep.DeepCutAuto
import Derived.Deep.CutBlock
import Derived.Deep.RegionHeld3
import Derived.Deep.LoopGhost
namespace Go.Proofs.YtkmafndljelopaaDoor.Q
open Go.RowKit Go.Proofs.YtkmafndljelopaaDoorW.PrintWords Go.Proofs.YtkmafndljelopaaDoorW.PrintLast Go.Proofs.YtkmafndljelopaaDoorW.PrintMore Go.Proofs.YtkmafndljelopaaDoor.Lx
set_option linter.unusedVariables false
set_option linter.unusedSimpArgs false
abbrev Tok6:=S108
def wrongP (at_ er:Int):List PanicEntry:= [{ v:= .iface 65 (.agg #[.int .i64 at_,.int .i64 er]),recovered:=false }]
def nx (l:List Tok6) (e:Int):Tok6:=l.headD ⟨0,e,⟨#[]⟩⟩
def TokAt (w0:World) (A:Option Addr):Prop:= ∀ a,A=some a→ ∃ cs,w0.heap[a.block]? =some (.cells cs 108 (0,0))
structure Ps (w0 w:World) (g:Nat) (l:List Tok6) (e:Int):Prop where
 blk: ∃ A c,w.heap[g]? =some (.cells #[.slice A l.length c,.int .i64 e] 69 (0,0))∧l.length≤c∧Kd.C k108 w0 A l.length l∧TokAt w0 A
 ge:w0.heap.size≤g
 bel:Below w0.heap.size w0 w
theorem Ps.below {w0 w w':World} {g:Nat} {l:List Tok6} {e:Int} (h:Ps w0 w g l e) (hb:Below w.heap.size w w'):Ps w0 w' g l e:=by
 obtain ⟨A,c,h1,h2,h3⟩:=h.blk;exact ⟨⟨A,c,dB h1 hb,h2,h3⟩,h.ge,bQ h.bel hb⟩
theorem Ps.lt {w0 w:World} {g:Nat} {l:List Tok6} {e:Int} (h:Ps w0 w g l e):g<w.heap.size:=by
 obtain ⟨A,c,h1,h2,h3⟩:=h.blk;exact iR h1
theorem add_zero' (a:Addr):a.add 0=a:=by unfold Addr.add;split <;> simp_all
set_option maxHeartbeats 400000 in
theorem xL {w0 w:World} {g:Nat} {l:List Tok6} {e:Int} (h:Ps w0 w g l e):
  Calls Tryd.prog 61 #[.pointer (some ⟨g,0,none⟩)] w fun E w'=>E= .returned (.agg #[.int .i64 (nx l e).f0,.int .i64 (nx l e).f1,.string (nx l e).f2])∧Below w.heap.size w w':=by
 have hu:=Tryd.underlying108;obtain ⟨A,c,h1,h2,h3⟩:=h.blk;have hlt:=h.lt;cases l with
 |nil=>
  have k0:(w.alloc (.cells #[.int .i64 0,.int .i64 0,.string ⟨#[]⟩] 108)).cell? ⟨g,0,none⟩=some (.slice A 0 c):=aD (aQ h1 _) 0;have k1:(w.alloc (.cells #[.int .i64 0,.int .i64 0,.string ⟨#[]⟩] 108)).cell? ⟨g,1,none⟩=some (.int .i64 e):=aD (aQ h1 _) 1;have HX:=aC.mk (aI (Below.refl w.heap.size w) (.cells #[.int .i64 0,.int .i64 0,.string ⟨#[]⟩] 108));clear h h1 h2 h3;go_enter Tryd.func61,Tryd.ntmps61
  go_wp2_with fail
  refine Go.bodyPost_ret (results_cell_row rfl _ _ w.heap.size 108 #[.int .i64 0,.int .i64 e,.string ⟨#[]⟩] (0,0) _ rfl (by exact gC w _) Tryd.underlying108 rfl (by kernel_rfl)) rfl ?_
  exact ⟨rfl,aI (Below.refl w.heap.size w) _⟩
 |cons t r=>
  obtain ⟨ad,rfl,t0,t1,t2⟩:=ZH (Kd.cN h3.1 h.bel) 0 (by decide) (by simp);have T0:w.cell? ad=some (.int .i64 t.f0):=by simpa [nB,add_zero'] using t0
  have T1:w.cell? ⟨ad.block,ad.off+1,none⟩=some (.int .i64 t.f1):=by simpa [nB,add_zero'] using t1
  have T2:w.cell? ⟨ad.block,ad.off+2,none⟩=some (.string t.f2):=by simpa [nB,add_zero'] using t2
  clear t0 t1 t2;have hb:=aI (Below.refl w.heap.size w) (.cells #[.int .i64 0,.int .i64 0,.string ⟨#[]⟩] 108);have k0:(w.alloc (.cells #[.int .i64 0,.int .i64 0,.string ⟨#[]⟩] 108)).cell? ⟨g,0,none⟩=some (.slice (some ad) (r.length+1) c):=aD (aQ h1 _) 0;have U0:=(hb.cell (World.block_lt_of_cell? w _ T0)).trans T0;have U1:=(hb.cell (World.block_lt_of_cell? w _ T1)).trans T1;have U2:=(hb.cell (World.block_lt_of_cell? w _ T2)).trans T2;have aJ1:(w.alloc (.cells #[.int .i64 0,.int .i64 0,.string ⟨#[]⟩] 108)).cell? (ad.add 0)=some (.int .i64 t.f0):=by rw [add_zero'];exact U0
  have q0:decide (0<r.length+1)=true:=decide_eq_true (by omega);have q1:decide ((0:Int)<((r.length+1:Nat):Int))=true:=decide_eq_true (by omega);have q2:(((r.length+1:Nat):Int)==0)=false:=beq_eq_false_iff_ne.mpr (by omega);have q3:(((r.length:Nat):Int)+1==0)=false:=beq_eq_false_iff_ne.mpr (by omega);clear h h1 h2 h3 hb T0 T1 T2;go_enter Tryd.func61,Tryd.ntmps61
  go_wp2_with fail
  refine Go.bodyPost_ret (results_cell_row rfl _ _ w.heap.size 108 #[.int .i64 t.f0,.int .i64 t.f1,.string t.f2] (0,0) _ rfl (by exact gC w _) Tryd.underlying108 rfl (by kernel_rfl)) rfl ?_
  exact ⟨rfl,aI (Below.refl w.heap.size w) _⟩
set_option maxRecDepth 20000 in
theorem am7 {w0 w:World} {g:Nat} {l:List Tok6} {e:Int} (h:Ps w0 w g l e) (er:Int):
  Calls Tryd.prog 65 #[.pointer (some ⟨g,0,none⟩),.int .i64 er] w fun E w'=>E= .panicked (wrongP (nx l e).f1 er)∧Below w.heap.size w w':=by
 have hu:=Tryd.underlying108;have WK:=Tryd.underlying65;have H:=aC.mk (xL h);generalize nx l e=n at H ⊢;have hf: ∀ W,(Instr.field 108 (.agg #[.int .i64 n.f0,.int .i64 n.f1,.string n.f2]) 1).run Tryd.prog W= .ok (.int .i64 n.f1) W:=fun W=>by rfl
 clear h;go_enter Tryd.func65,Tryd.ntmps65
 go_wp2_with (go_at_call 61;refine H.out.mono ?_;rintro E w' ⟨rfl,hb⟩)
 exact ⟨rfl,rfl,hb⟩
theorem azM (a:Addr) (n:Nat) (h:0<n):a.add n=⟨a.block,a.off+n,none⟩:=by unfold Addr.add;split <;> simp_all
theorem adU {w0 w Z:World} {g b:Nat} {r:List Tok6} {e:Int} {A:Option Addr} {c:Nat} {x0 x1 x2:Value} (hb:b=w.heap.size) (hne:b≠g)
  (hg:Z.heap[g]? =some (.cells #[.slice A r.length c,.int .i64 e] 69 (0,0))) (hc:r.length≤c) (hC:Kd.C k108 w0 A r.length r∧TokAt w0 A) (hge:w0.heap.size≤g) (hw:w0.heap.size≤w.heap.size)
  (hn:Z.heap[b]? =some (.cells #[.int .i64 0,.int .i64 0,.string ⟨#[]⟩] 108 (0,0))) (hk:KeepBut w Z g none) (hB:Below w0.heap.size w0 Z):
  Ps w0 (((Z.setCell ⟨b,0,none⟩ x0).setCell ⟨b,1,none⟩ x1).setCell ⟨b,2,none⟩ x2) g r e∧KeepBut w (((Z.setCell ⟨b,0,none⟩ x0).setCell ⟨b,1,none⟩ x1).setCell ⟨b,2,none⟩ x2) g none∧
   (((Z.setCell ⟨b,0,none⟩ x0).setCell ⟨b,1,none⟩ x1).setCell ⟨b,2,none⟩ x2).heap[b]? =some (.cells #[x0,x1,x2] 108 (0,0)):=by
 subst hb;have g1:=dT (dT (dT hg (p:=⟨w.heap.size,0,none⟩) hne.symm x0) (p:=⟨w.heap.size,1,none⟩) hne.symm x1) (p:=⟨w.heap.size,2,none⟩) hne.symm x2;have n1:=bX (bX (bX hn 0 x0 rfl) 1 x1 rfl) 2 x2 rfl;have k1:=BT (BT (BT hk (p:=⟨w.heap.size,0,none⟩) (Nat.le_refl _) x0) (p:=⟨w.heap.size,1,none⟩) (Nat.le_refl _) x1) (p:=⟨w.heap.size,2,none⟩) (Nat.le_refl _) x2;have b1:=Below.setCell (Below.setCell (Below.setCell hB (p:=⟨w.heap.size,0,none⟩) hw x0) (p:=⟨w.heap.size,1,none⟩) hw x1) (p:=⟨w.heap.size,2,none⟩) hw x2;exact ⟨⟨⟨A,c,g1,hc,hC⟩,hge,b1⟩,k1,n1⟩
set_option maxRecDepth 20000 in
set_option maxHeartbeats 400000 in
theorem vI {w0 w:World} {g:Nat} {t:Tok6} {r:List Tok6} {e:Int} (h:Ps w0 w g (t::r) e) (ht:t.f0≠0):
  Calls Tryd.prog 62 #[.pointer (some ⟨g,0,none⟩)] w fun E w'=>E= .returned (.agg #[.int .i64 t.f0,.int .i64 t.f1,.string t.f2])∧Ps w0 w' g r e∧KeepBut w w' g none:=by
 have hu:=Tryd.underlying108;have q0:(t.f0==0)=false:=beq_eq_false_iff_ne.mpr ht;have fM:=aI (Below.refl w.heap.size w) (.cells #[.int .i64 0,.int .i64 0,.string ⟨#[]⟩] 108);have h1:=h.below fM;have HN:aC (Calls Tryd.prog 61 #[.pointer (some ⟨g,0,none⟩)] (w.alloc (.cells #[.int .i64 0,.int .i64 0,.string ⟨#[]⟩] 108)) fun E w'=>E= .returned (.agg #[.int .i64 t.f0,.int .i64 t.f1,.string t.f2])∧Below (w.alloc (.cells #[.int .i64 0,.int .i64 0,.string ⟨#[]⟩] 108)).heap.size (w.alloc (.cells #[.int .i64 0,.int .i64 0,.string ⟨#[]⟩] 108)) w'):=aC.mk (xL h1);have zB:=gC w (.cells #[.int .i64 0,.int .i64 0,.string ⟨#[]⟩] 108);have cY:=aC.mk fM;have hlt:=h.lt;obtain ⟨A,c,h2,hlc,hC⟩:=h.blk;have wL:=aQ h2 (.cells #[.int .i64 0,.int .i64 0,.string ⟨#[]⟩] 108);clear fM h1 h2;go_enter Tryd.func62,Tryd.ntmps62
 go_upto_region 1 with fail
 have HN':=HN.out;generalize w.alloc (.cells #[.int .i64 0,.int .i64 0,.string ⟨#[]⟩] 108)=X at HN' zB cY wL ⊢;go_wp2_with fail
 refine HN'.mono ?_
 rintro E w2 ⟨rfl,bR⟩
 have cR:=aC.mk (bQ cY.out bR);have ZR:=dB wL bR;have E1:=dB zB bR;clear HN HN' bR wL zB cY;have hgY:=aQ ZR (.cells #[.int .i64 t.f0,.int .i64 t.f1,.string t.f2] 108);have hnY:=aQ E1 (.cells #[.int .i64 t.f0,.int .i64 t.f1,.string t.f2] 108);have htY:=gC w2 (.cells #[.int .i64 t.f0,.int .i64 t.f1,.string t.f2] 108);have HBY:=aC.mk (aI cR.out (.cells #[.int .i64 t.f0,.int .i64 t.f1,.string t.f2] 108));have yF:w.heap.size≤w2.heap.size:=bZ cR.out;go_upto_region 2 with fail
 generalize w2.alloc (.cells #[.int .i64 t.f0,.int .i64 t.f1,.string t.f2] 108)=Y at hgY hnY htY HBY ⊢;have N9:w.heap.size≠g:=by omega
 have Z8:w2.heap.size≠g:=by omega
 have hCd:=aC.mk (Kd.ayO (m:=1) hC.1 (by simp) hlc);obtain ⟨ad,rfl,-⟩:=ZH hC.1 0 (by decide) (by simp);have HTY':=aC.mk hC.2;have k0:=aD hgY 0;have kf:=aT hgY 0;have b0:=aD htY 0;have HGY:=aC.mk hgY;have HNY:=aC.mk hnY;have HTY:=aC.mk htY;have HLC:=aC.mk hlc;have q1:decide ((1:Int)≤((r.length+1:Nat):Int))=true:=decide_eq_true (by omega);have q2:decide (1≤r.length+1)=true:=decide_eq_true (by omega);have q3: ¬ (r.length+1<1):=by omega
 clear ZR E1 hgY hnY htY hC hlc;go_upto_region 4 with fail
 have KB: ∀ v',KeepBut w (Y.setCell ⟨g,0,none⟩ v') g none:=fun v'=>KeepBut.set_ (KeepBut.fS HBY.out g none) 0 v'
 have B0: ∀ v',Below w0.heap.size w0 (Y.setCell ⟨g,0,none⟩ v'):=fun v'=>Below.setCell (bQ h.bel HBY.out) (p:=⟨g,0,none⟩) h.ge v'
 have KBA:=aC.mk KB;have akC:=aC.mk B0;have GE:=aC.mk (bZ h.bel);have aeL:=aC.mk h.ge;clear KB B0 h;by_cases lK:c=1
 ·subst lK;go_upto_region 5 with fail
  have H8:=aC.mk (bX HGY.out 0 (.slice (some ad) r.length 0) rfl);have nR:=aC.mk (dT HNY.out N9 (.slice (some ad) r.length 0) (p:=⟨g,0,none⟩));have tO:=dT HTY.out Z8 (.slice (some ad) r.length 0) (p:=⟨g,0,none⟩);have GC:=aC.mk (KBA.out (.slice (some ad) r.length 0));have B4:=aC.mk (akC.out (.slice (some ad) r.length 0));have RF:aC (Kd.C k108 w0 (some ad) r.length r∧TokAt w0 (some ad)):=aC.mk ⟨by have h_:=hCd.out;rw [if_pos rfl] at h_;exact h_,HTY'.out⟩;have XY:aC (r.length≤0):=aC.mk (by have h_:=HLC.out;rw [List.length_cons] at h_;omega);generalize Y.setCell ⟨g,0,none⟩ (.slice (some ad) r.length 0)=Z at H8 nR tO GC B4 ⊢;have c0:=aD tO 0;have c1:=aD tO 1;have c2:=aD tO 2;have d0:=aD nR.out 0;have d1:=aD nR.out 1;have d2:=aD nR.out 2;have e0:=aT nR.out 0;have e1:=aT nR.out 1;have e2:=aT nR.out 2;clear k0 kf b0 tO;go_wp2_with fail
  obtain ⟨r1,r2,r3⟩:=adU (x0:=.int .i64 t.f0) (x1:=.int .i64 t.f1) (x2:=.string t.f2) rfl N9 H8.out XY.out RF.out aeL.out GE.out nR.out GC.out B4.out;refine Go.bodyPost_ret (results_cell_row rfl _ _ w.heap.size 108 #[.int .i64 t.f0,.int .i64 t.f1,.string t.f2] (0,0) _ rfl (by exact r3) Tryd.underlying108 rfl (by kernel_rfl)) rfl ?_
  exact ⟨rfl,r1,r2⟩
 ·go_upto_region 5 with fail
  have H8:=aC.mk (bX HGY.out 0 (.slice (some ⟨ad.block,ad.off+3,none⟩) r.length (c - 1)) rfl);have nR:=aC.mk (dT HNY.out N9 (.slice (some ⟨ad.block,ad.off+3,none⟩) r.length (c - 1)) (p:=⟨g,0,none⟩));have tO:=dT HTY.out Z8 (.slice (some ⟨ad.block,ad.off+3,none⟩) r.length (c - 1)) (p:=⟨g,0,none⟩);have GC:=aC.mk (KBA.out (.slice (some ⟨ad.block,ad.off+3,none⟩) r.length (c - 1)));have B4:=aC.mk (akC.out (.slice (some ⟨ad.block,ad.off+3,none⟩) r.length (c - 1)));have RF:aC (Kd.C k108 w0 (some ⟨ad.block,ad.off+3,none⟩) r.length r∧TokAt w0 (some ⟨ad.block,ad.off+3,none⟩)):=aC.mk ⟨by have h_:=hCd.out;rw [if_neg lK] at h_;rw [← azM ad 3 (by decide)];exact h_,fun a ha=>by obtain rfl:=Option.some.inj ha;exact HTY'.out ad rfl⟩;have XY:aC (r.length≤c - 1):=aC.mk (by have h_:=HLC.out;rw [List.length_cons] at h_;omega);generalize Y.setCell ⟨g,0,none⟩ (.slice (some ⟨ad.block,ad.off+3,none⟩) r.length (c - 1))=Z at H8 nR tO GC B4 ⊢;have c0:=aD tO 0;have c1:=aD tO 1;have c2:=aD tO 2;have d0:=aD nR.out 0;have d1:=aD nR.out 1;have d2:=aD nR.out 2;have e0:=aT nR.out 0;have e1:=aT nR.out 1;have e2:=aT nR.out 2;clear k0 kf b0 tO;go_wp2_with fail
  obtain ⟨r1,r2,r3⟩:=adU (x0:=.int .i64 t.f0) (x1:=.int .i64 t.f1) (x2:=.string t.f2) rfl N9 H8.out XY.out RF.out aeL.out GE.out nR.out GC.out B4.out;refine Go.bodyPost_ret (results_cell_row rfl _ _ w.heap.size 108 #[.int .i64 t.f0,.int .i64 t.f1,.string t.f2] (0,0) _ rfl (by exact r3) Tryd.underlying108 rfl (by kernel_rfl)) rfl ?_
  exact ⟨rfl,r1,r2⟩
def FailsW (w0 w:World) (g:Nat) (at_ er:Int) (E:Ending) (w':World):Prop:=E= .panicked (wrongP at_ er)∧Below w0.heap.size w0 w'∧KeepBut w w' g none
theorem Ps.D6 {w0 w w1:World} {g:Nat} {l:List Tok6} {e:Int} (h:Ps w0 w1 g l e) (hk:KeepBut w w1 g none) (er:Int):
  Calls Tryd.prog 65 #[.pointer (some ⟨g,0,none⟩),.int .i64 er] w1 fun E w'=>FailsW w0 w g (nx l e).f1 er E w':=by
 refine (am7 h er).mono ?_
 rintro E w' ⟨rfl,hb⟩
 exact ⟨rfl,bQ h.bel hb,hk.trans (KeepBut.fS hb g none) (.inl rfl)⟩
set_option maxRecDepth 20000 in
set_option maxHeartbeats 400000 in
theorem aaP {w0 w:World} {g:Nat} {t:Tok6} {r:List Tok6} {e:Int} (h:Ps w0 w g (t::r) e) (hG:GL w0) (ht:t.f0=1) (hn:nameB t.f2.data.toList=true):
  Calls Tryd.prog 63 #[.pointer (some ⟨g,0,none⟩)] w fun E w'=>E= .returned (.string t.f2)∧Ps w0 w' g r e∧KeepBut w w' g none:=by
 have hu:=Tryd.underlying108;obtain ⟨t0,t1,t2⟩:=t;obtain rfl:t0=1:=ht;have hf:xH.f t2=some true:=by unfold xH.f;rw [show nameB t2.data.toList=true from hn]
 have HF:=aC.mk hf;have HG:=aC.mk hG;have HN:aC (Calls Tryd.prog 61 #[.pointer (some ⟨g,0,none⟩)] w fun E w'=>E= .returned (.agg #[.int .i64 1,.int .i64 t1,.string t2])∧Below w.heap.size w w'):=aC.mk (xL h);have hfd: ∀ W,(Instr.field 108 (.agg #[.int .i64 1,.int .i64 t1,.string t2]) 2).run Tryd.prog W= .ok (.string t2) W:=fun W=>by rfl
 have HP:=aC.mk h;clear h hG hn hf;go_enter Tryd.func63,Tryd.ntmps63
 go_wp2_with fail
 refine HN.out.mono ?_
 rintro E w1 ⟨rfl,fM⟩
 have hX:=aI fM (.cells #[.int .i64 1,.int .i64 t1,.string t2] 108);have hbY:=gC w1 (.cells #[.int .i64 1,.int .i64 t1,.string t2] 108);go_upto_region 2 with fail
 generalize w1.alloc (.cells #[.int .i64 1,.int .i64 t1,.string t2] 108)=Y at hX hbY ⊢;have c0:=aD hbY 0;have c2:=aD hbY 2;have HY:=aC.mk hX;have HPY:=aC.mk (HP.out.below hX);clear hX hbY HN HP fM;go_wp2_with fail
 refine (xH.calls t2 true _ HF.out (HG.out.fS HPY.out.bel)).mono ?_
 rintro E w2 ⟨rfl,bR⟩
 have E0:=aC.mk (HPY.out.below bR);have tZ:=aC.mk (bQ HY.out bR);clear HPY HY bR c0 c2;go_wp2_with fail
 refine (vI E0.out (show (1:Int)≠0 by decide)).mono ?_
 rintro E w3 ⟨rfl,KN,uP⟩
 have W6:=aC.mk KN;have EF:=aC.mk ((KeepBut.fS tZ.out g none).trans uP (.inl rfl));clear KN uP;go_wp2_with fail
 go_ret
 exact ⟨rfl,W6.out,EF.out⟩
set_option maxRecDepth 20000 in
set_option maxHeartbeats 400000 in
theorem aeU {w0 w:World} {g:Nat} {l:List Tok6} {e:Int} (h:Ps w0 w g l e) (hG:GL w0) (hbad:(nx l e).f0≠1∨(nx l e).f0=1∧nameB (nx l e).f2.data.toList=false):
  Calls Tryd.prog 63 #[.pointer (some ⟨g,0,none⟩)] w fun E w'=>FailsW w0 w g (nx l e).f1 7 E w':=by
 have hu:=Tryd.underlying108;have HG:=aC.mk hG;have HN:=aC.mk (xL h);have HP:=aC.mk h;have HQ:aC (∀ w1,Ps w0 w1 g l e→KeepBut w w1 g none→Calls Tryd.prog 65 #[.pointer (some ⟨g,0,none⟩),.int .i64 7] w1 fun E w'=>FailsW w0 w g (nx l e).f1 7 E w'):=aC.mk fun w1 h1 hk=>h1.D6 hk 7
 generalize hnx:nx l e=n at HN HQ hbad ⊢;obtain ⟨n0,n1,n2⟩:=n;have HB:=aC.mk hbad;clear h hG hbad hnx;go_enter Tryd.func63,Tryd.ntmps63
 go_wp2_with fail
 refine HN.out.mono ?_
 rintro E w1 ⟨rfl,fM⟩
 have hX:=aI fM (.cells #[.int .i64 n0,.int .i64 n1,.string n2] 108);have hbY:=gC w1 (.cells #[.int .i64 n0,.int .i64 n1,.string n2] 108);go_upto_region 2 with fail
 generalize w1.alloc (.cells #[.int .i64 n0,.int .i64 n1,.string n2] 108)=Y at hX hbY ⊢;have c0:=aD hbY 0;have c2:=aD hbY 2;have HY:=aC.mk hX;have HPY:=aC.mk (HP.out.below hX);clear hX hbY HN HP fM;rcases HB.out with hb|⟨hb,bR⟩
 ·have q:(n0 !=1)=true:=bne_iff_ne.mpr hb;have q2:(n0==1)=false:=beq_eq_false_iff_ne.mpr hb;clear hb HB;go_wp2_with fail
  refine (HQ.out _ HPY.out (KeepBut.fS HY.out g none)).mono ?_
  rintro E w2 ⟨rfl,bR,jQ⟩
  go_wp2_with fail
  exact ⟨rfl,rfl,bR,jQ⟩
 ·obtain rfl:n0=1:=hb;have HF:aC (xH.f n2=some false):=aC.mk (by unfold xH.f;rw [show nameB n2.data.toList=false from bR]);clear bR HB;go_wp2_with fail
  refine (xH.calls n2 false _ HF.out (HG.out.fS HPY.out.bel)).mono ?_
  rintro E w2 ⟨rfl,bR⟩
  have E0:=aC.mk (HPY.out.below bR);have tZ:=aC.mk (bQ HY.out bR);clear HPY HY bR c0 c2;go_wp2_with fail
  refine (HQ.out _ E0.out (KeepBut.fS tZ.out g none)).mono ?_
  rintro E w3 ⟨rfl,iV,uP⟩
  go_wp2_with fail
  exact ⟨rfl,rfl,iV,uP⟩
def verbsT:ByteArray:=⟨#[117,115,101,32,115,101,116,32,108,111,99,107,32,117,110,108,111,99,107,32,99,97,108,108,32,115,112,97,119,110,32,105,102,32,108,111,111,112]⟩
def verbsC:List (List UInt8):= [[117,115,101],[115,101,116],[108,111,99,107],[117,110,108,111,99,107],[99,97,108,108],[115,112,97,119,110],[105,102],[108,111,111,112]]
theorem alU:Lib.fields verbsT.data.toList=verbsC:=by decide+kernel
theorem asW: ∀ b∈verbsT.data.toList,b.toNat<128:=by decide
def verbVals:Array Value:=(verbsC.map fun l=>Value.string ⟨l.toArray⟩).toArray
theorem afZ (w:World) (hG:GL w):Calls Tryd.prog 89 #[.string verbsT] w fun e w'=>e= .returned (.slice (some ⟨w.heap.size,0,none⟩) 8 8)∧w'=w.alloc (.cells verbVals 9):=by
 refine (Tryd.strings_Fields_laid verbsT w (by decide) (fun j b hb=>asW b (List.mem_of_getElem? hb)) hG.ascii).mono ?_
 rintro e w' ⟨rfl,rfl⟩
 rw [alU];exact ⟨rfl,rfl⟩
def verbBA:List ByteArray:=verbsC.map fun l=>⟨l.toArray⟩
theorem anM (g n:Nat):(⟨g,0,none⟩:Addr).add n=⟨g,n,none⟩:=by unfold Addr.add;split <;> simp_all
theorem abH {w:World} {g:Nat} {t:TypeId} {xs:List ByteArray} (h:w.heap[g]? =some (.cells (xs.map Value.string).toArray t (0,0))) (hl:xs.length≤9223372036854775807):
  Kd.C Kd.string w (some ⟨g,0,none⟩) xs.length xs:=by
 refine ⟨rfl,hl,fun _=>⟨_,rfl,fun j p hj=>⟨[.string p],rfl,rfl,fun i u hi=>?_⟩⟩⟩;obtain ⟨rfl,rfl⟩:i=0∧u= .string p:=by
  cases i with
  |zero=>simpa using hi.symm
  |succ i=>simp at hi
 have e:(⟨g,0,none⟩:Addr).add (j * Kd.string.sz+0)=⟨g,j,none⟩:=by
  show (⟨g,0,none⟩:Addr).add (j * 1+0)=_
  rw [anM];simp
 rw [e];have:=aD h j;rw [this];simp [hj]
def ixFrom (s:List UInt8):List (List UInt8)→Nat→Int
 |[],_=>-1
 |c::r,i=>if s=c then (i:Int) else ixFrom s r (i+1)
theorem apX (ps:List (List UInt8)) (i:Int) (h0:0≤i) (h:i<ps.length):rdOf ByteArray.empty (ps.map fun l=>(⟨l.toArray⟩:ByteArray)) i=⟨(ps.getD i.toNat []).toArray⟩:=by
 unfold rdOf
 have hl:i.toNat<ps.length:=by omega
 simp [List.getD_eq_getElem?_getD,List.getElem?_eq_getElem hl]
theorem amD (s:ByteArray):EvS (fun k=>jS.f k verbBA s) (ixFrom s.data.toList verbsC 0):=by
 have H: ∀ (d i:Nat),8 - i=d→i≤8→EvS (fun k=>jS.l0 k verbBA s 8 (i:Int)) (ixFrom s.data.toList (verbsC.drop i) i):=by
  have hl:verbBA.length=8:=rfl;have hl':verbsC.length=8:=rfl;intro d;induction d with
  |zero=>
   intro i hd hi;obtain rfl:i=8:=by omega
   refine EvS.succ ?_
   simp only [jS.l0];exact EvS.if_neg (by omega) (.some_ _)
  |succ d ih=>
   intro i hd hi;have hw:wrap64 ((i:Int)+1)=((i+1:Nat):Int):=by rw [w64 (by omega)];omega
   have hlt:i<verbsC.length:=by omega
   refine EvS.succ ?_
   simp only [jS.l0];refine EvS.if_pos (by omega) (EvS.if_pos (by omega) (EvS.if_pos (by rw [hl];omega) ?_));rw [verbBA,apX verbsC _ (by omega) (by omega),ByteArray.toList_eq,ByteArray.toList_eq,List.drop_eq_getElem_cons hlt];have hg:verbsC.getD (i:Int).toNat []=verbsC[i]:=by simp [List.getD_eq_getElem?_getD,List.getElem?_eq_getElem hlt]
   simp only [hg,ixFrom];by_cases h:s.data.toList=verbsC[i]
   ·refine EvS.if_pos (by simpa using h) ?_
    rw [if_pos h];exact .some_ _
   ·refine EvS.if_neg (by simpa using h) ?_
    rw [if_neg h,hw];exact ih (i+1) (by omega) (by omega)
 unfold jS.f
 exact H 8 0 rfl (by omega)
theorem ZZ (s:List UInt8): ∀ (l:List (List UInt8)) (i:Nat),-1≤ixFrom s l i∧ixFrom s l i<(i+l.length:Nat)
 |[],i=>by simp only [ixFrom,List.length_nil];omega
 |c::r,i=>by
  have:=ZZ s r (i+1);simp only [ixFrom,List.length_cons];split<;>omega
def kindN (s:ByteArray):Int:=ixFrom s.data.toList verbsC 0+1
theorem ahK (s:ByteArray):0≤kindN s∧kindN s≤8:=by
 have:=ZZ s.data.toList verbsC 0;have hl:verbsC.length=8:=rfl;unfold kindN
 omega
set_option maxRecDepth 20000 in
set_option maxHeartbeats 400000 in
theorem aeT (s:ByteArray) (w:World) (hG:GL w):Calls Tryd.prog 90 #[.string s] w fun e w'=>e= .returned (.int .i64 (kindN s))∧Below w.heap.size w w':=by
 obtain ⟨k,hk⟩:=(amD s).OR;have hw:wrap64 (ixFrom s.data.toList verbsC 0+1)=kindN s:=w64 (by have:=ahK s;unfold kindN at this;omega);have HK:=aC.mk hk;have HG:=aC.mk hG;have HW:=aC.mk hw;generalize ixFrom s.data.toList verbsC 0=ix at HK HW;clear hG hk hw;go_enter Tryd.func90,Tryd.ntmps90
 go_wp2_with fail
 refine (afZ w HG.out).mono ?_
 rintro e w1 ⟨rfl,qT⟩
 have hC:Kd.C Kd.string w1 (some ⟨w.heap.size,0,none⟩) verbBA.length verbBA:=by
  subst qT;exact abH (heap_alloc_new w _) (by decide)
 have HB:=aC.mk (show Below w.heap.size w w1 by subst qT;exact aI (Below.refl _ _) _);clear qT;have HC:=aC.mk hC;clear hC;go_wp2_with fail
 refine (jS.calls k (some ⟨w.heap.size,0,none⟩) 8 verbBA s ix _ HC.out (by decide) HK.out).mono ?_
 rintro e w2 ⟨rfl,⟨nd,rfl⟩⟩
 go_wp2_with fail
 go_ret
 exact ⟨by rw [HW.out];rfl,aN HB.out _⟩
def shapesT:ByteArray:=⟨#[110,110,110,110,110,110,105,111]⟩
def shapeN (k:Nat):Int:=([0,110,110,110,110,110,110,105,111].getD k 0:Nat)
theorem alN: ∀ p,p<8→ ∀ (h:p<shapesT.size),((shapesT[p]'h).toNat<128∧((shapesT[p]'h).toNat:Int)=shapeN (p+1)):=by decide
set_option maxRecDepth 20000 in
set_option maxHeartbeats 400000 in
theorem af4 (k:Nat) (hk:k≤8) (w:World):Calls Tryd.prog 88 #[.int .i64 (k:Int)] w fun e w'=>e= .returned (.int .i32 (shapeN k))∧Below w.heap.size w w':=by
 have alQ:=aC.mk hk;clear hk;go_enter Tryd.func88,Tryd.ntmps88
 go_wp2
 go_loopw [] (fun wr=>∃ (pos:Nat),aC (wr.heap[w.heap.size]? =some (.stringIter shapesT pos))∧aC (Below w.heap.size w wr)∧aC (pos≤8∧(k=0∨pos<k))) (fun wr=>8 - wr.iterPos w.heap.size)
 case atStart=>
  refine ⟨0,⟨?_⟩,⟨?_⟩,⟨by omega,by omega⟩⟩;·exact World.iter_heap w shapesT 0
  ·exact (Below.refl _ w).alloc (Nat.le_refl _) _
 case round=>
  obtain ⟨pos,JY,hbw,hr⟩:=hrel;have hit:=JY.out;have hle:aC (pos≤8):=⟨hr.out.1⟩;have ai8:shapesT.size=8:=rfl;by_cases hp:pos<8
  ·have hp':pos<shapesT.size:=hp;have hm:aC (wr.iterPos w.heap.size=pos):=⟨by simp [World.iterPos,hit]⟩;obtain ⟨ha,hsv⟩:=alN pos hp hp';have hnx: ∀ ty,(Instr.next (.pointer (some ⟨w.heap.size,0,none⟩)) true ty).run Tryd.prog wr=_:=fun ty=>Lib.run_next_ascii_at wr w.heap.size shapesT pos ty hit hp' ha
   rw [hsv] at hnx;have tX:=aC.mk (Lib.iterAt_heap wr w.heap.size shapesT pos (pos+1) hit);have rK:=aC.mk (Lib.below_iterAt hbw.out (k:=w.heap.size) (Nat.le_refl _) shapesT (pos+1));have qT:wrap64 ((pos:Int)+1)=((pos+1:Nat):Int):=by rw [w64 (by omega)];omega
   have SJ:IntKind.i64.wrap ((pos:Int)+1)=((pos+1:Nat):Int):=by rw [IntKind.wrap_i64];omega
   clear hit ha hsv hp' ai8;by_cases he:pos+1=k
   ·have q:(((pos:Int)+1)==(k:Int))=true:=beq_iff_eq.mpr (by omega);have q':(((pos+1:Nat):Int)==(k:Int))=true:=beq_iff_eq.mpr (by omega);have HS:aC (shapeN (pos+1)=shapeN k):=⟨by rw [he]⟩;clear he;go_wp2_with fail
    go_ret
    exact ⟨by rw [HS.out];rfl,rK.out⟩
   ·have q:(((pos:Int)+1)==(k:Int))=false:=beq_eq_false_iff_ne.mpr (by omega);have q':(((pos+1:Nat):Int)==(k:Int))=false:=beq_eq_false_iff_ne.mpr (by omega);have hrr:aC (pos+1≤8∧(k=0∨pos+1<k)):=⟨by have:=hr.out;omega⟩;clear he;go_wp2_with fail
    go_roundw
    case rel=>exact ⟨pos+1,⟨tX.out⟩,⟨rK.out⟩,hrr⟩
    case measure=>
     have h2:(wr.iterAt w.heap.size shapesT (pos+1)).iterPos w.heap.size=pos+1:=by
      have:=tX.out;simp [World.iterPos,this]
     rw [hm.out,h2];omega
  ·have hnx: ∀ ty,(Instr.next (.pointer (some ⟨w.heap.size,0,none⟩)) true ty).run Tryd.prog wr=_:=fun ty=>Lib.run_next_end_at wr w.heap.size shapesT pos ty hit (by rw [ai8];exact hp)
   have HS:aC (shapeN k=0):=⟨by
    have:=hr.out;have h8:=alQ.out;obtain rfl:k=0:=by omega
    rfl⟩
   go_wp2
   go_ret
   exact ⟨by rw [HS.out];rfl,hbw.out⟩
abbrev St6:=S86
inductive Out (α:Type) where
 |ok:α→List Tok6→Out α
 |bad:Int→Int→Out α
def elseT:ByteArray:=⟨#[101,108,115,101]⟩
def blockW (e:Int) (ss:Int→List Tok6→Out (List St6)) (deep:Int) (l:List Tok6):Out (List St6):=
 if (nx l e).f0≠2 then .bad (nx l e).f1 7
 else if 20≤deep then .bad (nx l e).f1 8
 else ss (deep+1) l.tail
def stmtW (e:Int) (bl:List Tok6→Out (List St6)) (l:List Tok6):Out St6:=
 if (nx l e).f0≠1 then .bad (nx l e).f1 7
 else if kindN (nx l e).f2=0 then .bad (nx l e).f1 7
 else if kindN (nx l e).f2≤6 then
  if (nx l.tail e).f0=1∧nameB (nx l.tail e).f2.data.toList=true then .ok ⟨kindN (nx l e).f2,(nx l e).f1,(nx l.tail e).f2,[],[]⟩ l.tail.tail
  else .bad (nx l.tail e).f1 7
 else match bl l.tail with
  | .bad a b=>.bad a b
  | .ok A r=>
   if kindN (nx l e).f2=8 then .ok ⟨8,(nx l e).f1,⟨#[]⟩,A,[]⟩ r
   else if (nx r e).f2=elseT then match bl r.tail with
    | .bad a b=>.bad a b
    | .ok B r2=>.ok ⟨7,(nx l e).f1,⟨#[]⟩,A,B⟩ r2
   else .ok ⟨7,(nx l e).f1,⟨#[]⟩,A,[]⟩ r
def thenS (k:List Tok6→Out (List St6)):Out St6→Out (List St6)
 | .bad a b=>.bad a b
 | .ok s r=>match k r with
  | .bad a b=>.bad a b
  | .ok ss r2=>.ok (s::ss) r2
def stmtsP (e:Int):Nat→Int→List Tok6→Out (List St6)
 |0,_,_=>.bad 0 0
 |n+1,deep,l=>
  if (nx l e).f0=3 then .ok [] l.tail
  else thenS (stmtsP e n deep) (stmtW e (blockW e (stmtsP e n) deep) l)
def consO (acc:List St6):Out (List St6)→Out (List St6)
 | .bad a b=>.bad a b
 | .ok ss r=>.ok (acc++ss) r
theorem tE (l:List Tok6):l.tail<:+l:=List.tail_suffix l
theorem DW {e:Int} {ss:Int→List Tok6→Out (List St6)} (h: ∀ d l A r,ss d l= .ok A r→r<:+l) {deep:Int} {l:List Tok6} {A:List St6} {r:List Tok6} (hb:blockW e ss deep l= .ok A r):r<:+l:=by
 unfold blockW at hb
 split at hb
 ·cases hb
 ·split at hb
  ·cases hb
  ·exact (h _ _ _ _ hb).trans (tE l)
theorem SP {e:Int} {bl:List Tok6→Out (List St6)} (h: ∀ l A r,bl l= .ok A r→r<:+l) {l:List Tok6} {s:St6} {r:List Tok6} (hb:stmtW e bl l= .ok s r):r<:+l.tail:=by
 unfold stmtW at hb
 split at hb
 ·cases hb
 split at hb
 ·cases hb
 split at hb
 ·split at hb
  ·injection hb with h1 h2
   subst h2;exact tE _
  ·cases hb
 ·split at hb
  ·cases hb
  ·rename_i A r1 h1
   split at hb
   ·injection hb with h3 h4
    subst h4;exact h _ _ _ h1
   ·split at hb
    ·split at hb
     ·cases hb
     ·rename_i B r2 h2
      injection hb with h3 h4
      subst h4;exact ((h _ _ _ h2).trans (tE _)).trans (h _ _ _ h1)
    ·injection hb with h3 h4
     subst h4;exact h _ _ _ h1
theorem E5 {e:Int} : ∀ (n:Nat) {deep:Int} {l:List Tok6} {A:List St6} {r:List Tok6},stmtsP e n deep l= .ok A r→r<:+l
 |0,_,_,_,_,h=>by simp [stmtsP] at h
 |n+1,deep,l,A,r,h=>by
  have ih:=fun d l A r=>E5 (e:=e) n (deep:=d) (l:=l) (A:=A) (r:=r)
  simp only [stmtsP] at h;split at h
  ·injection h with h1 h2
   subst h2;exact tE l
  ·cases h1:stmtW e (blockW e (stmtsP e n) deep) l with
   |bad a b=>rw [h1] at h;cases h
   |ok s r1=>
    rw [h1] at h;simp only [thenS] at h;split at h
    ·cases h
    ·rename_i ss r2 h2
     injection h with h3 h4
     subst h4;exact (ih _ _ _ _ h2).trans ((SP (fun l A r hb=>DW ih hb) h1).trans (tE l))
theorem af2 {e:Int} {bl:List Tok6→Out (List St6)} {l:List Tok6} {s:St6} {r:List Tok6} (hb:stmtW e bl l= .ok s r):0<l.length:=by
 cases l with
 |nil=>
  unfold stmtW at hb
  have h1:(nx [] e).f0≠1:=show (0:Int)≠1 by decide
  rw [if_pos h1] at hb;cases hb
 |cons t q=>simp
def BlockPost (w0 w:World) (g:Nat) (e:Int) (o:Out (List St6)) (E:Ending) (w':World):Prop:=
 match o with
 | .ok ss r=>∃ v,E= .returned v∧Kd.R k86 86 w' w.heap.size (fun k=>w.heap.size≤k) v ss∧Ps w0 w' g r e∧KeepBut w w' g none
 | .bad a er=>FailsW w0 w g a er E w'
def StmtPost (w0 w:World) (g:Nat) (e:Int) (o:Out St6) (E:Ending) (w':World):Prop:=
 match o with
 | .ok s r=>∃ vA vB,E= .returned (.agg #[.int .i64 s.f0,.int .i64 s.f1,.string s.f2,vA,vB])∧Kd.R k86 86 w' w.heap.size (fun k=>w.heap.size≤k) vA s.f3∧
   Kd.R k86 86 w' w.heap.size (fun k=>w.heap.size≤k) vB s.f4∧Ps w0 w' g r e∧KeepBut w w' g none
 | .bad a er=>FailsW w0 w g a er E w'
theorem JI {l:List Tok6} {e:Int} (h:(nx l e).f0≠0):l=nx l e::l.tail:=by
 cases l with
 |nil=>exact absurd rfl h
 |cons t r=>rfl
theorem vH {w w':World} {g b:Nat} {o:Obj} (hk:KeepBut w w' g none) (hb:w.heap[b]? =some o) (hne:b≠g):w'.heap[b]? =some o:=(hk.2 b (iR hb) hne (by simp)).trans hb
structure Sm (w0 w Z:World) (g b6:Nat) (l:List Tok6) (e:Int) (x0 x1 x2 x3 x4:Value):Prop where
 ps:Ps w0 Z g l e
 kb:KeepBut w Z g none
 n4:Z.heap[w.heap.size]? =some (.cells #[.int .i64 0,.int .i64 0,.string ⟨#[]⟩,.slice none 0 0,.slice none 0 0] 86 (0,0))
 n6:Z.heap[b6]? =some (.cells #[x0,x1,x2,x3,x4] 86 (0,0))
 ge:w.heap.size<b6
 gl:g<w.heap.size
 w0:w0.heap.size≤w.heap.size
theorem Sm.step {w0 w Z Z':World} {g b6:Nat} {l l':List Tok6} {e:Int} {x0 x1 x2 x3 x4:Value} (h:Sm w0 w Z g b6 l e x0 x1 x2 x3 x4) (hP:Ps w0 Z' g l' e) (hk:KeepBut Z Z' g none):Sm w0 w Z' g b6 l' e x0 x1 x2 x3 x4:=
 ⟨hP,h.kb.trans hk (.inl rfl),vH hk h.n4 (by have:=h.gl;omega),vH hk h.n6 (by have:=h.gl;have:=h.ge;omega),h.ge,h.gl,h.w0⟩
theorem Sm.below {w0 w Z Z':World} {g b6:Nat} {l:List Tok6} {e:Int} {x0 x1 x2 x3 x4:Value} (h:Sm w0 w Z g b6 l e x0 x1 x2 x3 x4) (hb:Below Z.heap.size Z Z'):Sm w0 w Z' g b6 l e x0 x1 x2 x3 x4:=
 h.step (h.ps.below hb) (KeepBut.fS hb g none)
theorem Ps.far {w0 w:World} {g:Nat} {l:List Tok6} {e:Int} (h:Ps w0 w g l e) {p:Addr} (hne:g≠p.block) (hge:w0.heap.size≤p.block) (u:Value):Ps w0 (w.setCell p u) g l e:=by
 obtain ⟨A,c,h1,h2,h3⟩:=h.blk;exact ⟨⟨A,c,dT h1 hne u,h2,h3⟩,h.ge,Below.setCell h.bel hge u⟩
theorem Sm.put_ {w0 w Z:World} {g b6:Nat} {l:List Tok6} {e:Int} {x0 x1 x2 x3 x4 y0 y1 y2 y3 y4:Value} (h:Sm w0 w Z g b6 l e x0 x1 x2 x3 x4) (j:Nat) (v:Value) (hv: #[x0,x1,x2,x3,x4].setIfInBounds j v= #[y0,y1,y2,y3,y4]):Sm w0 w (Z.setCell ⟨b6,j,none⟩ v) g b6 l e y0 y1 y2 y3 y4:=by
 have h1:=h.gl;have h2:=h.ge;have h3:=h.w0;exact ⟨h.ps.far (by show g≠b6;omega) (by show _≤b6;omega) v,BT h.kb (by show _≤b6;omega) v,dT h.n4 (by show w.heap.size≠b6;omega) v,bX h.n6 j v hv,h.ge,h.gl,h.w0⟩
theorem Sm.end_ {w0 w Z:World} {g b6:Nat} {l:List Tok6} {e:Int} {x0 x1 x2 x3 x4:Value} (h:Sm w0 w Z g b6 l e x0 x1 x2 x3 x4) {vA vB:Value} {A B:List St6}
  (hA:Kd.R k86 86 Z w.heap.size (fun k=>w.heap.size<k) vA A) (hB:Kd.R k86 86 Z w.heap.size (fun k=>w.heap.size<k) vB B):
  let Zf:=((((Z.setCell ⟨w.heap.size,0,none⟩ x0).setCell ⟨w.heap.size,1,none⟩ x1).setCell ⟨w.heap.size,2,none⟩ x2).setCell ⟨w.heap.size,3,none⟩ x3).setCell ⟨w.heap.size,4,none⟩ x4
  Zf.heap[w.heap.size]? =some (.cells #[x0,x1,x2,x3,x4] 86 (0,0))∧Kd.R k86 86 Zf w.heap.size (fun k=>w.heap.size≤k) vA A∧Kd.R k86 86 Zf w.heap.size (fun k=>w.heap.size≤k) vB B∧Ps w0 Zf g l e∧KeepBut w Zf g none:=by
 have h1:=h.gl;have h3:=h.w0;have f: ∀ (Y:World) (j:Nat) (u:Value),Ps w0 Y g l e→Ps w0 (Y.setCell ⟨w.heap.size,j,none⟩ u) g l e:=fun Y j u hY=>hY.far (by show g≠w.heap.size;omega) h3 u
 have k: ∀ (Y:World) (j:Nat) (u:Value),KeepBut w Y g none→KeepBut w (Y.setCell ⟨w.heap.size,j,none⟩ u) g none:=fun Y j u hY=>BT hY (Nat.le_refl _) u
 have r: ∀ (Y:World) (j:Nat) (u v:Value) (xs:List St6),Kd.R k86 86 Y w.heap.size (fun k=>w.heap.size<k) v xs→Kd.R k86 86 (Y.setCell ⟨w.heap.size,j,none⟩ u) w.heap.size (fun k=>w.heap.size<k) v xs:=
  fun Y j u v xs hY=>Kd.bH hY (p:=⟨w.heap.size,j,none⟩) (fun k_ hk=>by show k_≠w.heap.size;omega) u
 exact ⟨bX (bX (bX (bX (bX h.n4 0 _ rfl) 1 _ rfl) 2 _ rfl) 3 _ rfl) 4 _ rfl,Kd.bW (r _ _ _ _ _ (r _ _ _ _ _ (r _ _ _ _ _ (r _ _ _ _ _ (r _ _ _ _ _ hA))))) (fun _ hk=>Nat.le_of_lt hk),Kd.bW (r _ _ _ _ _ (r _ _ _ _ _ (r _ _ _ _ _ (r _ _ _ _ _ (r _ _ _ _ _ hB))))) (fun _ hk=>Nat.le_of_lt hk),
  f _ _ _ (f _ _ _ (f _ _ _ (f _ _ _ (f _ _ _ h.ps)))),k _ _ _ (k _ _ _ (k _ _ _ (k _ _ _ (k _ _ _ h.kb))))⟩
theorem aqF: ∀ k,k<7→0<k→shapeN k=110:=by decide
set_option maxRecDepth 100000 in
set_option maxHeartbeats 1600000 in
theorem aqL {w0 w:World} {g:Nat} {l:List Tok6} {e deep:Int} (bl:List Tok6→Out (List St6)) (hsuf: ∀ l A r,bl l= .ok A r→r<:+l)
  (hbl: ∀ w r,Ps w0 w g r e→r<:+l.tail→Calls Tryd.prog 64 #[.pointer (some ⟨g,0,none⟩),.int .i64 deep] w (BlockPost w0 w g e (bl r)))
  (h:Ps w0 w g l e) (hkd: ∀ t∈l,t.f0≠0) (hG:GL w0):
  Calls Tryd.prog 82 #[.pointer (some ⟨g,0,none⟩),.int .i64 deep] w (StmtPost w0 w g e (stmtW e bl l)):=by
 have hu:=Tryd.underlying108;have YQ:=Tryd.underlying86;have HSUF:=aC.mk hsuf;have HKD:=aC.mk hkd;have HBL:=aC.mk hbl;have HG:=aC.mk hG;have kD:=aI (Below.refl w.heap.size w) (.cells #[.int .i64 0,.int .i64 0,.string ⟨#[]⟩,.slice none 0 0,.slice none 0 0] 86);have xP:=gC w (.cells #[.int .i64 0,.int .i64 0,.string ⟨#[]⟩,.slice none 0 0,.slice none 0 0] 86);have HP:=aC.mk (h.below kD);have ajP:=aC.mk h;have glt:=h.lt;clear hsuf hbl hG h hkd;obtain ⟨⟨t0,t1,t2⟩,hnx⟩: ∃ t,nx l e=t:=⟨_,rfl⟩;have HNX:=aC.mk hnx;clear hnx;go_enter Tryd.func82,Tryd.ntmps82
 go_upto_region 1 with fail
 generalize w.alloc (.cells #[.int .i64 0,.int .i64 0,.string ⟨#[]⟩,.slice none 0 0,.slice none 0 0] 86)=X at kD xP HP ⊢;have wO:=aC.mk kD;have JB:=aC.mk xP;clear kD xP;go_wp2_with fail
 refine (xL HP.out).mono ?_
 rintro E w1 ⟨rfl,fM⟩
 rw [HNX.out];have kV:=aC.mk ((HP.out.below fM).below (aI (Below.refl _ w1) (.cells #[.int .i64 t0,.int .i64 t1,.string t2] 108)));have cY:=aC.mk (aI (bQ wO.out fM) (.cells #[.int .i64 t0,.int .i64 t1,.string t2] 108));have l8:=aC.mk (aQ (dB JB.out fM) (.cells #[.int .i64 t0,.int .i64 t1,.string t2] 108));have hbt:=gC w1 (.cells #[.int .i64 t0,.int .i64 t1,.string t2] 108);go_upto_region 2 with fail
 generalize w1.alloc (.cells #[.int .i64 t0,.int .i64 t1,.string t2] 108)=Y at kV cY l8 hbt ⊢;have c0:=aD hbt 0;have c1:=aD hbt 1;have c2:=aD hbt 2;clear fM hbt HP wO JB;by_cases ht:t0=1
 ·subst ht;go_upto_region 4 with fail
  have YN:=aC.mk (HG.out.fS kV.out.bel);have agC:w.heap.size<Y.heap.size:=iR l8.out;have akT:=aC.mk agC;clear agC;have HS:aC (∀ W,Below Y.heap.size Y W→W.cell? ⟨w1.heap.size,1,none⟩=some (.int .i64 t1)∧W.cell? ⟨w1.heap.size,2,none⟩=some (.string t2)):=aC.mk fun W hW=>⟨(hW.cell (World.block_lt_of_cell? Y _ c1)).trans c1,(hW.cell (World.block_lt_of_cell? Y _ c2)).trans c2⟩
  go_cut [6] (fun v6 wc=>∃ b6,v6= .pointer (some ⟨b6,0,none⟩)∧aC (wc.heap[b6]? =some (.cells #[.int .i64 (kindN t2),.int .i64 t1,.string ⟨#[]⟩,.slice none 0 0,.slice none 0 0] 86 (0,0)))∧aC (Y.heap.size≤b6)∧aC (Below Y.heap.size Y wc))
  case first=>
   refine mK (n:=8) (S:=fun w'=>w'.cell? ⟨w1.heap.size,1,none⟩=some (.int .i64 t1)∧w'.cell? ⟨w1.heap.size,2,none⟩=some (.string t2)) (ds:=[]) #[false,false,false,false,false,false,false,false] (by kernel_rfl) rfl rfl ⟨c1,c2⟩ (fun hHeld=>?_);refine bE (i:=0) (N:=some 14) (v:=?_) (a':=?_) #[true,false,false,false,false,false,false,false] rfl rfl (by kernel_rfl) (fun _ _ _ h=>h) (Or.inl ⟨by rfl,?_⟩) ?_ ?_
   rotate_left;·intro w';go_simp;with_reducible rfl
   rotate_left;·simp only [Act.put,q1_,q2_,q3_,aG,aH];rfl
   refine bE (i:=3) (N:=some 17) (v:=?_) (a':=?_) #[true,false,false,true,false,false,false,false] rfl rfl (by kernel_rfl) (fun _ _ _ h=>h) (Or.inl ⟨by rfl,?_⟩) ?_ ?_
   rotate_left;·intro w';go_simp;with_reducible rfl
   rotate_left;·simp only [Act.put,q1_,q2_,q3_,aG,aH];rfl
   refine eC (i:=1) (N:=some 15) (v:=?_) (a':=?_) #[true,true,false,true,false,false,false,false] rfl rfl (by kernel_rfl) (fun _ _ _ h=>h) (Or.inl ⟨by rfl,?_⟩) hHeld ?_ ?_
   rotate_left
   ·rintro w' ⟨s0,s1⟩
    go_simp;with_reducible rfl
   rotate_left;·simp only [Act.put,q1_,q2_,q3_,aG,aH];rfl
   refine eC (i:=4) (N:=some 18) (v:=?_) (a':=?_) #[true,true,false,true,true,false,false,false] rfl rfl (by kernel_rfl) (fun _ _ _ h=>h) (Or.inl ⟨by rfl,?_⟩) hHeld ?_ ?_
   rotate_left
   ·rintro w' ⟨s0,s1⟩
    go_simp;with_reducible rfl
   rotate_left;·simp only [Act.put,q1_,q2_,q3_,aG,aH];rfl
   refine gA (σ:=Nat) 1 #[true,true,true,true,true,true,true,false] (fun s=>[(16,.int .i64 (kindN t2)),(19,.agg #[.int .i64 (kindN t2),.int .i64 t1,.string ⟨#[]⟩,.slice none 0 0,.slice none 0 0]),(6,.pointer (some ⟨s,0,none⟩))]) (fun s w'=>w'.heap[s]? =some (.cells #[.int .i64 0,.int .i64 0,.string ⟨#[]⟩,.slice none 0 0,.slice none 0 0] 86 (0,0))∧Y.heap.size≤s∧Below Y.heap.size Y w') ?_ ?_
   rotate_left
   ·intro hCont;refine two_ (i:=2) (j:=6) (Ni:=some 16) (Nj:=some 6) #[true,true,true,true,true,false,false,false] #[true,true,false,true,true,false,true,false] rfl rfl rfl rfl (by kernel_rfl) (by decide) (by decide) (fun K hK=>?_) (fun K hK=>?_)
    ·skip
     refine mM Tryd.func90 (by kernel_rfl) rfl #[.string t2] (by rfl) rfl rfl (by simp only [List.map_toArray,List.map_cons,List.map_nil];rfl) ?_
     with_reducible refine (aeT t2 _ (YN.out.fS (aJ (Below.refl Y.heap.size Y)))).mono ?_
     rintro E w2 ⟨rfl,bR⟩
     refine ⟨_,rfl,?_⟩;have cR:Below Y.heap.size Y w2:=bQ (aJ (Below.refl Y.heap.size Y)) bR;refine hK.out _ _ ⟨(HS.out _ cR).1,(HS.out _ cR).2⟩ (fun hHeld=>?_);clear hK K;refine aZ (a':=?_) ?_ ?_
     rotate_left
     ·show Act.put _ (some 16) _=_
      simp only [Act.put,q1_,q2_,q3_,aG,aH];rfl
     refine bE (i:=5) (N:=some 19) (v:=?_) (a':=?_) #[true,true,true,true,true,true,false,false] rfl rfl (by kernel_rfl) (fun _ _ _ h=>h) (Or.inl ⟨by rfl,?_⟩) ?_ ?_
     rotate_left;·intro w';go_simp;with_reducible rfl
     rotate_left;·simp only [Act.put,q1_,q2_,q3_,aG,aH];rfl
     refine one_ (i:=6) (N:=some 6) #[true,true,true,true,true,true,true,false] rfl rfl (by kernel_rfl) (by decide) (fun K hK=>?_);refine dG (w1:=?_) (v:=?_) (by rfl) rfl ?_ ?_
     rotate_left 2
     ·go_simp;constructor
      ·rfl
      ·rfl
     refine hK.out _ _ ⟨(HS.out _ (aI cR _)).1,(HS.out _ (aI cR _)).2⟩ (fun hHeld=>?_);clear hK K;refine aZ (a':=?_) ?_ ?_
     rotate_left
     ·show Act.put _ (some 6) _=_
      simp only [Act.put,q1_,q2_,q3_,aG,aH];rfl
     exact aZ (by simp only [putAll,Act.put,q1_,q2_,q3_]) (hCont w2.heap.size _ ⟨gC w2 _,bZ cR,aI cR _⟩)
    ·skip
     refine dG (w1:=?_) (v:=?_) (by rfl) rfl ?_ ?_
     rotate_left 2
     ·go_simp;constructor
      ·rfl
      ·rfl
     refine hK.out _ _ ⟨(HS.out _ (aJ (aI (Below.refl Y.heap.size Y) (.cells #[.int .i64 0,.int .i64 0,.string ⟨#[]⟩,.slice none 0 0,.slice none 0 0] 86)))).1,(HS.out _ (aJ (aI (Below.refl Y.heap.size Y) (.cells #[.int .i64 0,.int .i64 0,.string ⟨#[]⟩,.slice none 0 0,.slice none 0 0] 86)))).2⟩ (fun hHeld=>?_);clear hK K;refine aZ (a':=?_) ?_ ?_
     rotate_left
     ·show Act.put _ (some 6) _=_
      simp only [Act.put,q1_,q2_,q3_,aG,aH];rfl
     refine one_ (i:=2) (N:=some 16) #[true,true,true,true,true,false,true,false] rfl rfl (by kernel_rfl) (by decide) (fun K hK=>?_);refine mM Tryd.func90 (by kernel_rfl) rfl #[.string t2] (by rfl) rfl rfl (by simp only [List.map_toArray,List.map_cons,List.map_nil];rfl) ?_
     with_reducible refine (aeT t2 _ (YN.out.fS (aJ (aI (Below.refl Y.heap.size Y) (.cells #[.int .i64 0,.int .i64 0,.string ⟨#[]⟩,.slice none 0 0,.slice none 0 0] 86))))).mono ?_
     rintro E w2 ⟨rfl,bR⟩
     refine ⟨_,rfl,?_⟩;have cR:Below Y.heap.size Y w2:=bQ (aJ (aI (Below.refl Y.heap.size Y) (.cells #[.int .i64 0,.int .i64 0,.string ⟨#[]⟩,.slice none 0 0,.slice none 0 0] 86))) bR;refine hK.out _ _ ⟨(HS.out _ cR).1,(HS.out _ cR).2⟩ (fun hHeld=>?_);clear hK K;refine aZ (a':=?_) ?_ ?_
     rotate_left
     ·show Act.put _ (some 16) _=_
      simp only [Act.put,q1_,q2_,q3_,aG,aH];rfl
     refine bE (i:=5) (N:=some 19) (v:=?_) (a':=?_) #[true,true,true,true,true,true,true,false] rfl rfl (by kernel_rfl) (fun _ _ _ h=>h) (Or.inl ⟨by rfl,?_⟩) ?_ ?_
     rotate_left;·intro w';go_simp;with_reducible rfl
     rotate_left;·simp only [Act.put,q1_,q2_,q3_,aG,aH];rfl
     exact aZ (by simp only [putAll,Act.put,q1_,q2_,q3_]) (hCont Y.heap.size _ ⟨dB (aV (gC Y (.cells #[.int .i64 0,.int .i64 0,.string ⟨#[]⟩,.slice none 0 0,.slice none 0 0] 86))) bR,Nat.le_refl _,cR⟩)
   rintro b6 w3 ⟨sF,aaY,TQ⟩
   have hHeld:w3.cell? ⟨w1.heap.size,1,none⟩=some (.int .i64 t1)∧w3.cell? ⟨w1.heap.size,2,none⟩=some (.string t2):=HS.out _ TQ;have avU:=aC.mk sF;have mW:=aC.mk aaY;have zH:=aC.mk TQ;have z0:=aD sF 0;have z1:=aD sF 1;have z2:=aD sF 2;have z3:=aD sF 3;have z4:=aD sF 4;have y0:=aT sF 0;have y1:=aT sF 1;have y2:=aT sF 2;have y3:=aT sF 3;have y4:=aT sF 4;clear sF aaY TQ;refine aZ (a':=?_) ?_ ?_
   rotate_left;·simp only [putAll,Act.put,q1_,q2_,q3_];rfl
   refine one_ (i:=7) (N:=none) #[true,true,true,true,true,true,true,true] rfl rfl (by kernel_rfl) (by decide) (fun K hK=>?_);refine lV (w1:=?_) (by rfl) rfl ?_ ?_
   rotate_left;·go_simp;rfl
   refine hK.out _ _ ⟨(HS.out _ (Below.setCell (Below.setCell (Below.setCell (Below.setCell (Below.setCell zH.out (p:=⟨b6,0,none⟩) mW.out _) (p:=⟨b6,1,none⟩) mW.out _) (p:=⟨b6,2,none⟩) mW.out _) (p:=⟨b6,3,none⟩) mW.out _) (p:=⟨b6,4,none⟩) mW.out _)).1,(HS.out _ (Below.setCell (Below.setCell (Below.setCell (Below.setCell (Below.setCell zH.out (p:=⟨b6,0,none⟩) mW.out _) (p:=⟨b6,1,none⟩) mW.out _) (p:=⟨b6,2,none⟩) mW.out _) (p:=⟨b6,3,none⟩) mW.out _) (p:=⟨b6,4,none⟩) mW.out _)).2⟩ (fun hHeld=>?_);clear hK K;refine mP (by kernel_rfl) ?_
   go_wp2
   go_meet
   case rel=>exact ⟨b6,rfl,aC.mk (bX (bX (bX (bX (bX avU.out 0 _ rfl) 1 _ rfl) 2 _ rfl) 3 _ rfl) 4 _ rfl),mW,aC.mk (Below.setCell (Below.setCell (Below.setCell (Below.setCell (Below.setCell zH.out (p:=⟨b6,0,none⟩) mW.out _) (p:=⟨b6,1,none⟩) mW.out _) (p:=⟨b6,2,none⟩) mW.out _) (p:=⟨b6,3,none⟩) mW.out _) (p:=⟨b6,4,none⟩) mW.out _)⟩
  case rest=>
   obtain ⟨b6,rfl,aeR,mW,zH⟩:=hcut;obtain ⟨kk,mT,jQ⟩: ∃ kk:Nat,kindN t2=(kk:Int)∧kk≤8:=by
    have:=ahK t2;exact ⟨(kindN t2).toNat,by omega,by omega⟩
   have hcons:l=⟨1,t1,t2⟩::l.tail:=by
    have:=JI (l:=l) (e:=e) (by rw [HNX.out];show (1:Int)≠0;decide);rwa [HNX.out] at this
   have HSm:aC (Sm w0 w wc g b6 (⟨1,t1,t2⟩::l.tail) e (.int .i64 kk) (.int .i64 t1) (.string ⟨#[]⟩) (.slice none 0 0) (.slice none 0 0)):=aC.mk (by
    rw [← hcons,← mT];exact ⟨kV.out.below zH.out,KeepBut.fS (bQ cY.out zH.out) g none,dB l8.out zH.out,aeR.out,Nat.lt_of_lt_of_le akT.out mW.out,glt,bZ ajP.out.bel⟩)
   have dI:=aC.mk mT;have vN:=aC.mk jQ;have HSP:aC (stmtW e bl l=if (kk:Int)=0 then .bad t1 7 else if (kk:Int)≤6 then
     (if (nx l.tail e).f0=1∧nameB (nx l.tail e).f2.data.toList=true then .ok ⟨(kk:Int),t1,(nx l.tail e).f2,[],[]⟩ l.tail.tail else .bad (nx l.tail e).f1 7)
    else match bl l.tail with
    | .bad a b=>.bad a b
    | .ok A r=>
     if (kk:Int)=8 then .ok ⟨8,t1,⟨#[]⟩,A,[]⟩ r
     else if (nx r e).f2=elseT then match bl r.tail with
      | .bad a b=>.bad a b
      | .ok B r2=>.ok ⟨7,t1,⟨#[]⟩,A,B⟩ r2
     else .ok ⟨7,t1,⟨#[]⟩,A,[]⟩ r):=⟨by unfold stmtW;rw [HNX.out];simp only [mT];rfl⟩
   have c6:=aD HSm.out.n6 0;have HSH:=aC.mk (af4 kk jQ wc);clear mT jQ hcons aeR mW zH l8 cY kV akT c0 c1 c2 HNX ajP YN HS;go_wp2_with fail
   refine HSH.out.mono ?_
   rintro E w3 ⟨rfl,iV⟩
   have jH:=aC.mk (HSm.out.below iV);clear HSm HSH iV c6;have hkk:=vN.out;by_cases k0:kk=0
   ·subst k0;have kW:aC (stmtW e bl l= .bad t1 7):=⟨by rw [HSP.out];exact if_pos rfl⟩;rw [show shapeN 0=0 from rfl];clear hkk HSP dI vN;go_wp2_with fail
    refine (jH.out.ps.D6 jH.out.kb 7).mono ?_
    rintro E w4 ⟨rfl,p8,mX⟩
    go_wp2_with fail
    refine ⟨rfl,?_⟩;rw [kW.out];exact ⟨rfl,p8,mX⟩
   by_cases k6:kk≤6
   ·rw [aqF kk (by omega) (by omega)];have wG:aC (stmtW e bl l=if (nx l.tail e).f0=1∧nameB (nx l.tail e).f2.data.toList=true then .ok ⟨(kk:Int),t1,(nx l.tail e).f2,[],[]⟩ l.tail.tail else .bad (nx l.tail e).f1 7):=⟨by
     rw [HSP.out,if_neg (by omega),if_pos (by omega)]⟩
    clear hkk k0 k6 HSP dI vN;go_wp2_with fail
    refine (vI jH.out.ps (show (1:Int)≠0 by decide)).mono ?_
    rintro E w4 ⟨rfl,uL,mX⟩
    have mS:=aC.mk (jH.out.step uL mX);clear uL mX jH;go_wp2_with fail
    by_cases hn:(nx l.tail e).f0=1∧nameB (nx l.tail e).f2.data.toList=true
    ·have kW:aC (stmtW e bl l= .ok ⟨(kk:Int),t1,(nx l.tail e).f2,[],[]⟩ l.tail.tail):=⟨by rw [wG.out,if_pos hn]⟩;have nW:=JI (l:=l.tail) (e:=e) (by rw [hn.1];decide);have lW:=mS.out.ps;rw [nW] at lW;refine (aaP lW HG.out hn.1 hn.2).mono ?_
     rintro E w5 ⟨rfl,abP,ah8⟩
     have eA:=aC.mk (mS.out.step abP ah8);clear wG hn nW lW abP ah8 mS;generalize (nx l.tail e).f2=nm at kW ⊢;have a0:=aD eA.out.n6 0;have a1:=aD eA.out.n6 1;have a2:=aD eA.out.n6 2;have a3:=aD eA.out.n6 3;have a4:=aD eA.out.n6 4;have z0:=aT eA.out.n6 0;have z1:=aT eA.out.n6 1;have z2:=aT eA.out.n6 2;have z3:=aT eA.out.n6 3;have z4:=aT eA.out.n6 4;have a40:=aD eA.out.n4 0;have a41:=aD eA.out.n4 1;have oR:=aD eA.out.n4 2;have oW:=aD eA.out.n4 3;have a44:=aD eA.out.n4 4;have z40:=aT eA.out.n4 0;have z41:=aT eA.out.n4 1;have z42:=aT eA.out.n4 2;have z43:=aT eA.out.n4 3;have z44:=aT eA.out.n4 4;go_upto_region 19 with fail
     have fL:=aC.mk (eA.out.put_ 2 (.string nm) rfl);clear a0 a1 a2 a3 a4 z0 z1 z2 z3 z4 a40 a41 oR oW a44 z40 z41 z42 z43 z44;generalize w5.setCell ⟨b6,2,none⟩ (.string nm)=w6 at fL ⊢;clear eA;have a0:=aD fL.out.n6 0;have a1:=aD fL.out.n6 1;have a2:=aD fL.out.n6 2;have a3:=aD fL.out.n6 3;have a4:=aD fL.out.n6 4;have z0:=aT fL.out.n6 0;have z1:=aT fL.out.n6 1;have z2:=aT fL.out.n6 2;have z3:=aT fL.out.n6 3;have z4:=aT fL.out.n6 4;have a40:=aD fL.out.n4 0;have a41:=aD fL.out.n4 1;have oR:=aD fL.out.n4 2;have oW:=aD fL.out.n4 3;have a44:=aD fL.out.n4 4;have z40:=aT fL.out.n4 0;have z41:=aT fL.out.n4 1;have z42:=aT fL.out.n4 2;have z43:=aT fL.out.n4 3;have z44:=aT fL.out.n4 4;go_wp2_with fail
     clear a0 a1 a2 a3 a4 z0 z1 z2 z3 z4 a40 a41 oR oW a44 z40 z41 z42 z43 z44;obtain ⟨r0,r1,r2,r3,r4⟩:=fL.out.end_ (Kd.jZ _ _ _ _ _) (Kd.jZ _ _ _ _ _);refine Go.bodyPost_ret (results_cell_row rfl _ _ w.heap.size 86 #[.int .i64 kk,.int .i64 t1,.string nm,.slice none 0 0,.slice none 0 0] (0,0) _ rfl (by exact r0) Tryd.underlying86 rfl (by kernel_rfl)) rfl ?_
     rw [kW.out];exact ⟨_,_,rfl,r1,r2,r3,r4⟩
    ·have kW:aC (stmtW e bl l= .bad (nx l.tail e).f1 7):=⟨by rw [wG.out,if_neg hn]⟩;have zB:(nx l.tail e).f0≠1∨(nx l.tail e).f0=1∧nameB (nx l.tail e).f2.data.toList=false:=by
      by_cases h1:(nx l.tail e).f0=1
      ·exact .inr ⟨h1,by simpa using fun h2=>hn ⟨h1,h2⟩⟩
      ·exact .inl h1
     refine (aeU mS.out.ps HG.out zB).mono ?_
     rintro E w5 ⟨rfl,oN,jF⟩
     clear hn zB;go_wp2_with fail
     refine ⟨rfl,?_⟩;rw [kW.out];exact ⟨rfl,oN,mS.out.kb.trans jF (.inl rfl)⟩
   by_cases k8:kk=8
   ·subst k8;have wG:aC (stmtW e bl l=match bl l.tail with
      | .bad a b=>.bad a b
      | .ok A r=>.ok ⟨8,t1,⟨#[]⟩,A,[]⟩ r):=⟨by rw [HSP.out];rfl⟩
    rw [show shapeN 8=111 from rfl];clear hkk k0 k6 HSP dI vN;go_wp2_with fail
    refine (vI jH.out.ps (show (1:Int)≠0 by decide)).mono ?_
    rintro E w4 ⟨rfl,uL,mX⟩
    have mS:=aC.mk (jH.out.step uL mX);clear uL mX jH;go_wp2_with fail
    have HC:=aC.mk (HBL.out w4 l.tail mS.out.ps (List.suffix_refl _));obtain ⟨ob,hob⟩: ∃ o,bl l.tail=o:=⟨_,rfl⟩;rw [hob] at HC;have HOB:=aC.mk hob;clear hob;cases ob with
    |bad xa xb=>
     have kW:aC (stmtW e bl l= .bad xa xb):=⟨by rw [wG.out,HOB.out]⟩;refine HC.out.mono ?_
     rintro E w5 ⟨rfl,oN,jF⟩
     clear HC HOB;go_wp2_with fail
     refine ⟨rfl,?_⟩;rw [kW.out];exact ⟨rfl,oN,mS.out.kb.trans jF (.inl rfl)⟩
    |ok A r=>
     refine HC.out.mono ?_
     rintro E w5 ⟨vA,rfl,AW,lW,jF⟩
     obtain ⟨aA,cA,rfl⟩:=Kd.gI AW;have IZ:w.heap.size<w4.heap.size:=iR mS.out.n4;have RJ:b6<w4.heap.size:=iR mS.out.n6;have eA:=aC.mk (mS.out.step lW jF);have I9:aC (Kd.R k86 86 w5 w.heap.size (fun k=>w.heap.size<k∧k≠b6) (.slice aA A.length cA) A):=aC.mk (Kd.iW (Kd.bW AW (fun k_ hk=>⟨by omega,by omega⟩)) (Nat.le_of_lt IZ));clear HC AW lW jF mS IZ RJ;have a0:=aD eA.out.n6 0;have a1:=aD eA.out.n6 1;have a2:=aD eA.out.n6 2;have a3:=aD eA.out.n6 3;have a4:=aD eA.out.n6 4;have z0:=aT eA.out.n6 0;have z1:=aT eA.out.n6 1;have z2:=aT eA.out.n6 2;have z3:=aT eA.out.n6 3;have z4:=aT eA.out.n6 4;have a40:=aD eA.out.n4 0;have a41:=aD eA.out.n4 1;have oR:=aD eA.out.n4 2;have oW:=aD eA.out.n4 3;have a44:=aD eA.out.n4 4;have z40:=aT eA.out.n4 0;have z41:=aT eA.out.n4 1;have z42:=aT eA.out.n4 2;have z43:=aT eA.out.n4 3;have z44:=aT eA.out.n4 4;have kW:aC (stmtW e bl l= .ok ⟨8,t1,⟨#[]⟩,A,[]⟩ r):=⟨by rw [wG.out,HOB.out]⟩;go_upto_region 19 with fail
     have fL:=aC.mk (eA.out.put_ 3 (.slice aA A.length cA) rfl);have DP:aC (Kd.R k86 86 (w5.setCell ⟨b6,3,none⟩ (.slice aA A.length cA)) w.heap.size (fun k=>w.heap.size<k) (.slice aA A.length cA) A):=aC.mk (Kd.bW (Kd.bH I9.out (p:=⟨b6,3,none⟩) (fun k_ hk=>hk.2) (.slice aA A.length cA)) (fun k_ hk=>hk.1));clear a0 a1 a2 a3 a4 z0 z1 z2 z3 z4 a40 a41 oR oW a44 z40 z41 z42 z43 z44;generalize w5.setCell ⟨b6,3,none⟩ (.slice aA A.length cA)=w6 at fL DP ⊢;clear eA I9;have a0:=aD fL.out.n6 0;have a1:=aD fL.out.n6 1;have a2:=aD fL.out.n6 2;have a3:=aD fL.out.n6 3;have a4:=aD fL.out.n6 4;have z0:=aT fL.out.n6 0;have z1:=aT fL.out.n6 1;have z2:=aT fL.out.n6 2;have z3:=aT fL.out.n6 3;have z4:=aT fL.out.n6 4;have a40:=aD fL.out.n4 0;have a41:=aD fL.out.n4 1;have oR:=aD fL.out.n4 2;have oW:=aD fL.out.n4 3;have a44:=aD fL.out.n4 4;have z40:=aT fL.out.n4 0;have z41:=aT fL.out.n4 1;have z42:=aT fL.out.n4 2;have z43:=aT fL.out.n4 3;have z44:=aT fL.out.n4 4;go_wp2_with fail
     clear a0 a1 a2 a3 a4 z0 z1 z2 z3 z4 a40 a41 oR oW a44 z40 z41 z42 z43 z44;obtain ⟨r0,r1,r2,r3,r4⟩:=fL.out.end_ DP.out (Kd.jZ _ _ _ _ _);refine Go.bodyPost_ret (results_cell_row rfl _ _ w.heap.size 86 #[.int .i64 8,.int .i64 t1,.string ⟨#[]⟩,.slice aA A.length cA,.slice none 0 0] (0,0) _ rfl (by exact r0) Tryd.underlying86 rfl (by kernel_rfl)) rfl ?_
     rw [kW.out];exact ⟨_,_,rfl,r1,r2,r3,r4⟩
   obtain rfl:kk=7:=by omega
   have wG:aC (stmtW e bl l=match bl l.tail with
     | .bad a b=>.bad a b
     | .ok A r=>if (nx r e).f2=elseT then (match bl r.tail with
      | .bad a b=>.bad a b
      | .ok B r2=>.ok ⟨7,t1,⟨#[]⟩,A,B⟩ r2) else .ok ⟨7,t1,⟨#[]⟩,A,[]⟩ r):=⟨by rw [HSP.out];rfl⟩
   rw [show shapeN 7=105 from rfl];clear hkk k0 k6 k8 HSP dI vN;go_wp2_with fail
   refine (vI jH.out.ps (show (1:Int)≠0 by decide)).mono ?_
   rintro E w4 ⟨rfl,uL,mX⟩
   have mS:=aC.mk (jH.out.step uL mX);clear uL mX jH;go_wp2_with fail
   have HC:=aC.mk (HBL.out w4 l.tail mS.out.ps (List.suffix_refl _));obtain ⟨ob,hob⟩: ∃ o,bl l.tail=o:=⟨_,rfl⟩;rw [hob] at HC;have HOB:=aC.mk hob;clear hob;cases ob with
   |bad xa xb=>
    have kW:aC (stmtW e bl l= .bad xa xb):=⟨by rw [wG.out,HOB.out]⟩;refine HC.out.mono ?_
    rintro E w5 ⟨rfl,oN,jF⟩
    clear HC HOB;go_wp2_with fail
    refine ⟨rfl,?_⟩;rw [kW.out];exact ⟨rfl,oN,mS.out.kb.trans jF (.inl rfl)⟩
   |ok A r=>
    refine HC.out.mono ?_
    rintro E w5 ⟨vA,rfl,AW,lW,jF⟩
    obtain ⟨aA,cA,rfl⟩:=Kd.gI AW;have IZ:w.heap.size<w4.heap.size:=iR mS.out.n4;have RJ:b6<w4.heap.size:=iR mS.out.n6;have eA:=aC.mk (mS.out.step lW jF);have I9:aC (Kd.R k86 86 w5 w.heap.size (fun k=>w.heap.size<k∧k≠b6) (.slice aA A.length cA) A):=aC.mk (Kd.iW (Kd.bW AW (fun k_ hk=>⟨by omega,by omega⟩)) (Nat.le_of_lt IZ));clear HC AW lW jF mS IZ RJ;have a0:=aD eA.out.n6 0;have a1:=aD eA.out.n6 1;have a2:=aD eA.out.n6 2;have a3:=aD eA.out.n6 3;have a4:=aD eA.out.n6 4;have z0:=aT eA.out.n6 0;have z1:=aT eA.out.n6 1;have z2:=aT eA.out.n6 2;have z3:=aT eA.out.n6 3;have z4:=aT eA.out.n6 4;have a40:=aD eA.out.n4 0;have a41:=aD eA.out.n4 1;have oR:=aD eA.out.n4 2;have oW:=aD eA.out.n4 3;have a44:=aD eA.out.n4 4;have z40:=aT eA.out.n4 0;have z41:=aT eA.out.n4 1;have z42:=aT eA.out.n4 2;have z43:=aT eA.out.n4 3;have z44:=aT eA.out.n4 4;have PA:aC (stmtW e bl l=if (nx r e).f2=elseT then (match bl r.tail with
      | .bad a b=>.bad a b
      | .ok B r2=>.ok ⟨7,t1,⟨#[]⟩,A,B⟩ r2) else .ok ⟨7,t1,⟨#[]⟩,A,[]⟩ r):=⟨by rw [wG.out,HOB.out]⟩
    have HRS:=aC.mk (HSUF.out _ _ _ HOB.out);clear wG HOB;go_upto_region 16 with fail
    have fL:=aC.mk (eA.out.put_ 3 (.slice aA A.length cA) rfl);have DP:aC (Kd.R k86 86 (w5.setCell ⟨b6,3,none⟩ (.slice aA A.length cA)) w.heap.size (fun k=>w.heap.size<k∧k≠b6) (.slice aA A.length cA) A):=aC.mk (Kd.bW (Kd.bH I9.out (p:=⟨b6,3,none⟩) (fun k_ hk=>hk.2) (.slice aA A.length cA)) (fun k_ hk=>hk));clear a0 a1 a2 a3 a4 z0 z1 z2 z3 z4 a40 a41 oR oW a44 z40 z41 z42 z43 z44;generalize w5.setCell ⟨b6,3,none⟩ (.slice aA A.length cA)=w6 at fL DP ⊢;clear eA I9;obtain ⟨⟨n0,n1,n2⟩,hnr⟩: ∃ t,nx r e=t:=⟨_,rfl⟩;have HNR:=aC.mk hnr;have HNC:aC (Calls Tryd.prog 61 #[.pointer (some ⟨g,0,none⟩)] w6 fun E w'=>E= .returned (.agg #[.int .i64 n0,.int .i64 n1,.string n2])∧Below w6.heap.size w6 w'):=aC.mk (by
     have:=xL fL.out.ps;rwa [hnr] at this)
    have hfd: ∀ W,(Instr.field 108 (.agg #[.int .i64 n0,.int .i64 n1,.string n2]) 2).run Tryd.prog W= .ok (.string n2) W:=fun W=>by rfl
    clear hnr;go_wp2_with fail
    refine HNC.out.mono ?_
    rintro E w7 ⟨rfl,X6⟩
    have j5:=aC.mk (fL.out.below X6);have MN:=aC.mk (Kd.dC DP.out X6);clear HNC X6 fL DP;by_cases hel:n2=elseT
    ·subst hel;have VY:aC (stmtW e bl l=match bl r.tail with
      | .bad a b=>.bad a b
      | .ok B r2=>.ok ⟨7,t1,⟨#[]⟩,A,B⟩ r2):=⟨by rw [PA.out,HNR.out];exact if_pos rfl⟩
     have hrc:r=⟨n0,n1,elseT⟩::r.tail:=by
      have h1:=HNR.out;cases r with
      |nil=>
       have:=congrArg (fun t=>t.f2.size) h1;exact absurd (show (0:Nat)=4 from this) (by decide)
      |cons t q=>exact congrArg (· ::q) h1
     have xP:n0≠0:=by
      have h1:(⟨n0,n1,elseT⟩:Tok6)∈l:=(HRS.out.trans (tE l)).subset (by rw [hrc];exact List.mem_cons_self);exact HKD.out _ h1
     have UG:=j5.out.ps;rw [hrc] at UG;have XR:=aC.mk UG;have JB:=aC.mk xP;have HRT:aC (r.tail<:+l.tail):=aC.mk ((tE r).trans HRS.out);have hdc:(elseT=⟨#[101,108,115,101]⟩):=rfl;clear hrc xP UG PA HNR HRS;rw [hdc];rw [hdc] at XR;have aET: ∀ W,(Instr.field 108 (.agg #[.int .i64 n0,.int .i64 n1,.string ⟨#[101,108,115,101]⟩]) 2).run Tryd.prog W= .ok (.string ⟨#[101,108,115,101]⟩) W:=fun W=>by rfl
     clear hdc hfd;go_wp2_with fail
     refine (vI XR.out JB.out).mono ?_
     rintro E w8 ⟨rfl,adW,xT⟩
     have BU:=aC.mk (j5.out.step adW xT);have NF:=aC.mk (Kd.BJ MN.out xT (fun k_ hk=>by have:=j5.out.gl;omega));clear adW xT j5 MN XR JB;go_wp2_with fail
     have HC:=aC.mk (HBL.out w8 r.tail BU.out.ps HRT.out);obtain ⟨oc,hoc⟩: ∃ o,bl r.tail=o:=⟨_,rfl⟩;rw [hoc] at HC;have HOC:=aC.mk hoc;clear hoc;cases oc with
     |bad xa xb=>
      have kW:aC (stmtW e bl l= .bad xa xb):=⟨by rw [VY.out,HOC.out]⟩;refine HC.out.mono ?_
      rintro E w9 ⟨rfl,L8,IL⟩
      clear HC HOC;go_wp2_with fail
      refine ⟨rfl,?_⟩;rw [kW.out];exact ⟨rfl,L8,BU.out.kb.trans IL (.inl rfl)⟩
     |ok B r2=>
      refine HC.out.mono ?_
      rintro E w9 ⟨vB,rfl,ZD,Z2,IL⟩
      obtain ⟨aB,cB,rfl⟩:=Kd.gI ZD;have agH:w.heap.size<w8.heap.size:=iR BU.out.n4;have asY:b6<w8.heap.size:=iR BU.out.n6;have kU:=aC.mk (BU.out.step Z2 IL);have OD:aC (Kd.R k86 86 w9 w.heap.size (fun k=>w.heap.size<k∧k≠b6) (.slice aB B.length cB) B):=aC.mk (Kd.iW (Kd.bW ZD (fun k_ hk=>⟨by omega,by omega⟩)) (Nat.le_of_lt agH));have aeQ:=aC.mk (Kd.BJ NF.out IL (fun k_ hk=>by have:=BU.out.gl;omega));have kW:aC (stmtW e bl l= .ok ⟨7,t1,⟨#[]⟩,A,B⟩ r2):=⟨by rw [VY.out,HOC.out]⟩;clear HC ZD Z2 IL BU NF agH asY HOC VY;have a0:=aD kU.out.n6 0;have a1:=aD kU.out.n6 1;have a2:=aD kU.out.n6 2;have a3:=aD kU.out.n6 3;have a4:=aD kU.out.n6 4;have z0:=aT kU.out.n6 0;have z1:=aT kU.out.n6 1;have z2:=aT kU.out.n6 2;have z3:=aT kU.out.n6 3;have z4:=aT kU.out.n6 4;have a40:=aD kU.out.n4 0;have a41:=aD kU.out.n4 1;have oR:=aD kU.out.n4 2;have oW:=aD kU.out.n4 3;have a44:=aD kU.out.n4 4;have z40:=aT kU.out.n4 0;have z41:=aT kU.out.n4 1;have z42:=aT kU.out.n4 2;have z43:=aT kU.out.n4 3;have z44:=aT kU.out.n4 4;go_upto_region 19 with fail
      have kY:=aC.mk (kU.out.put_ 4 (.slice aB B.length cB) rfl);have af3:aC (Kd.R k86 86 (w9.setCell ⟨b6,4,none⟩ (.slice aB B.length cB)) w.heap.size (fun k=>w.heap.size<k) (.slice aA A.length cA) A):=aC.mk (Kd.bW (Kd.bH aeQ.out (p:=⟨b6,4,none⟩) (fun k_ hk=>hk.2) (.slice aB B.length cB)) (fun k_ hk=>hk.1));have aiN:aC (Kd.R k86 86 (w9.setCell ⟨b6,4,none⟩ (.slice aB B.length cB)) w.heap.size (fun k=>w.heap.size<k) (.slice aB B.length cB) B):=aC.mk (Kd.bW (Kd.bH OD.out (p:=⟨b6,4,none⟩) (fun k_ hk=>hk.2) (.slice aB B.length cB)) (fun k_ hk=>hk.1));clear a0 a1 a2 a3 a4 z0 z1 z2 z3 z4 a40 a41 oR oW a44 z40 z41 z42 z43 z44;generalize w9.setCell ⟨b6,4,none⟩ (.slice aB B.length cB)=aJ0 at kY af3 aiN ⊢;clear kU aeQ OD;have a0:=aD kY.out.n6 0;have a1:=aD kY.out.n6 1;have a2:=aD kY.out.n6 2;have a3:=aD kY.out.n6 3;have a4:=aD kY.out.n6 4;have z0:=aT kY.out.n6 0;have z1:=aT kY.out.n6 1;have z2:=aT kY.out.n6 2;have z3:=aT kY.out.n6 3;have z4:=aT kY.out.n6 4;have a40:=aD kY.out.n4 0;have a41:=aD kY.out.n4 1;have oR:=aD kY.out.n4 2;have oW:=aD kY.out.n4 3;have a44:=aD kY.out.n4 4;have z40:=aT kY.out.n4 0;have z41:=aT kY.out.n4 1;have z42:=aT kY.out.n4 2;have z43:=aT kY.out.n4 3;have z44:=aT kY.out.n4 4;go_wp2_with fail
      clear a0 a1 a2 a3 a4 z0 z1 z2 z3 z4 a40 a41 oR oW a44 z40 z41 z42 z43 z44;obtain ⟨r0,r1,r2,r3,r4⟩:=kY.out.end_ af3.out aiN.out;refine Go.bodyPost_ret (results_cell_row rfl _ _ w.heap.size 86 #[.int .i64 7,.int .i64 t1,.string ⟨#[]⟩,.slice aA A.length cA,.slice aB B.length cB] (0,0) _ rfl (by exact r0) Tryd.underlying86 rfl (by kernel_rfl)) rfl ?_
      rw [kW.out];exact ⟨_,_,rfl,r1,r2,r3,r4⟩
    ·have kW:aC (stmtW e bl l= .ok ⟨7,t1,⟨#[]⟩,A,[]⟩ r):=⟨by rw [PA.out,HNR.out];exact if_neg hel⟩;have hne: ¬ n2.toList= [101,108,115,101]:=fun hq=>hel (by
      rw [ByteArray.toList_eq] at hq;cases n2
      simp only [elseT,ByteArray.mk.injEq];exact Array.ext' hq)
     have hnb:(n2.toList== [101,108,115,101])=false:=beq_eq_false_iff_ne.mpr hne;have NF:aC (Kd.R k86 86 w7 w.heap.size (fun k=>w.heap.size<k) (.slice aA A.length cA) A):=aC.mk (Kd.bW MN.out (fun k_ hk=>hk.1));clear hel MN PA HNR HRS;have a0:=aD j5.out.n6 0;have a1:=aD j5.out.n6 1;have a2:=aD j5.out.n6 2;have a3:=aD j5.out.n6 3;have a4:=aD j5.out.n6 4;have z0:=aT j5.out.n6 0;have z1:=aT j5.out.n6 1;have z2:=aT j5.out.n6 2;have z3:=aT j5.out.n6 3;have z4:=aT j5.out.n6 4;have a40:=aD j5.out.n4 0;have a41:=aD j5.out.n4 1;have oR:=aD j5.out.n4 2;have oW:=aD j5.out.n4 3;have a44:=aD j5.out.n4 4;have z40:=aT j5.out.n4 0;have z41:=aT j5.out.n4 1;have z42:=aT j5.out.n4 2;have z43:=aT j5.out.n4 3;have z44:=aT j5.out.n4 4;go_wp2_with fail
     clear a0 a1 a2 a3 a4 z0 z1 z2 z3 z4 a40 a41 oR oW a44 z40 z41 z42 z43 z44;obtain ⟨r0,r1,r2,r3,r4⟩:=j5.out.end_ NF.out (Kd.jZ _ _ _ _ _);refine Go.bodyPost_ret (results_cell_row rfl _ _ w.heap.size 86 #[.int .i64 7,.int .i64 t1,.string ⟨#[]⟩,.slice aA A.length cA,.slice none 0 0] (0,0) _ rfl (by exact r0) Tryd.underlying86 rfl (by kernel_rfl)) rfl ?_
     rw [kW.out];exact ⟨_,_,rfl,r1,r2,r3,r4⟩
 ·have q:(t0 !=1)=true:=bne_iff_ne.mpr ht;have HS:aC (stmtW e bl l= .bad t1 7):=⟨by unfold stmtW;rw [HNX.out,if_pos ht]⟩;rw [HS.out];clear ht;go_wp2_with fail
  refine (kV.out.D6 (KeepBut.fS cY.out g none) 7).mono ?_
  rintro E w2 ⟨rfl,bR,jQ⟩
  rw [HNX.out];go_wp2_with fail
  refine ⟨rfl,?_⟩;rw [HS.out];exact ⟨rfl,bR,jQ⟩
theorem Ps.grown {w0 w w':World} {g:Nat} {l:List Tok6} {e:Int} {row:Option Nat} (h:Ps w0 w g l e) (hg:w.grownBy w' row) (hr: ∀ k,row=some k→w0.heap.size≤k∧k≠g):Ps w0 w' g l e:=by
 obtain ⟨A,c,h1,h2,h3⟩:=h.blk;exact ⟨⟨A,c,iY h1 hg (fun he=>(hr g he.symm).2 rfl),h2,h3⟩,h.ge,Below.grown h.bel hg (bZ h.bel) (fun k hk=>(hr k hk).1)⟩
theorem amW (o:Out (List St6)):consO [] o=o:=by cases o <;> rfl
theorem aoL (acc:List St6) (s:St6) (k:List Tok6→Out (List St6)) (r:List Tok6):consO acc (thenS k (.ok s r))=consO (acc++ [s]) (k r):=by
 simp only [thenS];cases k r
 ·simp [consO]
 ·rfl
def BlockRel (w0 w:World) (g:Nat) (e deep:Int) (tot:Out (List St6)) (L:List Tok6) (N n:Nat) (v:Value) (wr:World):Prop:=
 ∃ l acc,aC (Kd.R k86 86 wr w.heap.size (fun k=>w.heap.size≤k) v acc)∧aC (Ps w0 wr g l e)∧aC (KeepBut w wr g none)∧aC (consO acc (stmtsP e n deep l)=tot)∧
  aC (l<:+L∧l.length<n∧acc.length+l.length≤L.length∧n≤N)
set_option maxRecDepth 100000 in
set_option maxHeartbeats 3200000 in
theorem al0 {w0:World} {g:Nat} {e:Int} (hG:GL w0): ∀ (n:Nat) (w:World) (l:List Tok6) (deep:Int),Ps w0 w g l e→(∀ t∈l,t.f0≠0)→l.length≤n→l.length≤1000000→0≤deep→deep≤20→
  Calls Tryd.prog 64 #[.pointer (some ⟨g,0,none⟩),.int .i64 deep] w (BlockPost w0 w g e (blockW e (stmtsP e n) deep l)):=by
 intro n;induction n using Nat.strongRecOn with
 |_ n ih=>
 intro w l deep h hkd hn hL atD am2;have hu:=Tryd.underlying108;have YQ:=Tryd.underlying86;have IH:=aC.mk ih;have HKD:=aC.mk hkd;have HG:=aC.mk hG;have HP:=aC.mk h;have glt:=h.lt;have HGE:=aC.mk (bZ h.bel);have HN:=aC.mk hn;have HL:=aC.mk hL;clear ih hkd h hn hL;obtain ⟨⟨t0,t1,t2⟩,hnx⟩: ∃ t,nx l e=t:=⟨_,rfl⟩;have HNX:=aC.mk hnx;have HNC:aC (Calls Tryd.prog 61 #[.pointer (some ⟨g,0,none⟩)] w fun E w'=>E= .returned (.agg #[.int .i64 t0,.int .i64 t1,.string t2])∧Below w.heap.size w w'):=aC.mk (by
  have:=xL HP.out;rwa [hnx] at this)
 have hfd: ∀ W,(Instr.field 108 (.agg #[.int .i64 t0,.int .i64 t1,.string t2]) 0).run Tryd.prog W= .ok (.int .i64 t0) W:=fun W=>by rfl
 clear hnx;go_enter Tryd.func64,Tryd.ntmps64
 go_wp2_with fail
 refine HNC.out.mono ?_
 rintro E w1 ⟨rfl,fM⟩
 have kV:=aC.mk (HP.out.below fM);have dI:=aC.mk (KeepBut.fS fM g none);clear HNC fM;by_cases ht:t0=2
 ·subst ht;by_cases hd:20≤deep
  ·have HS:aC (blockW e (stmtsP e n) deep l= .bad t1 8):=⟨by unfold blockW;rw [HNX.out,if_neg (by simp),if_pos hd]⟩;obtain rfl:deep=20:=by omega
   clear hd atD am2;go_wp2_with fail
   refine (kV.out.D6 dI.out 8).mono ?_
   rintro E w2 ⟨rfl,bR,jQ⟩
   rw [HNX.out];go_wp2_with fail
   refine ⟨rfl,?_⟩;rw [HS.out];exact ⟨rfl,bR,jQ⟩
  ·have HS:aC (blockW e (stmtsP e n) deep l=stmtsP e n (deep+1) l.tail):=⟨by unfold blockW;rw [HNX.out,if_neg (by simp),if_neg hd]⟩;have aI1:deep<20:=by omega
   have qd:decide (20≤deep)=false:=decide_eq_false hd;have hcons:l=⟨2,t1,t2⟩::l.tail:=by
    have:=JI (l:=l) (e:=e) (by rw [HNX.out];show (2:Int)≠0;decide);rwa [HNX.out] at this
   have HPc:=kV.out;rw [hcons] at HPc;have E0:=aC.mk HPc;have HLL:aC (l.length=l.tail.length+1):=aC.mk (congrArg List.length hcons);clear hcons HPc hd;go_wp2_with fail
   refine (vI E0.out (show (2:Int)≠0 by decide)).mono ?_
   rintro E w2 ⟨rfl,KN,uP⟩
   have W6:=aC.mk KN;have EF:=aC.mk (dI.out.trans uP (.inl rfl));clear KN uP E0 kV dI;clear hfd HNX HP;go_wp2_with fail
   go_loopg [5] n (fun n' v5 wr=>BlockRel w0 w g e (deep+1) (stmtsP e n (deep+1) l.tail) l.tail n n' v5 wr)
   case atStart=>exact ⟨l.tail,[],⟨Kd.jZ _ _ _ _ _⟩,W6,EF,⟨amW _⟩,⟨List.suffix_refl _,by have:=HLL.out;have:=HN.out;omega,by simp,Nat.le_refl _⟩⟩
   case round=>
    obtain ⟨l',acc,HR,HPr,HKr,HE,HI⟩:=hrel;cases gk with
    |zero=>exact absurd HI.out.2.1 (by omega)
    |succ n1=>
    obtain ⟨⟨m0,m1,m2⟩,hnx⟩: ∃ t,nx l' e=t:=⟨_,rfl⟩;have HNX:=aC.mk hnx;have HNC:aC (Calls Tryd.prog 61 #[.pointer (some ⟨g,0,none⟩)] wr fun E w'=>E= .returned (.agg #[.int .i64 m0,.int .i64 m1,.string m2])∧Below wr.heap.size wr w'):=aC.mk (by
     have:=xL HPr.out;rwa [hnx] at this)
    have hfd: ∀ W,(Instr.field 108 (.agg #[.int .i64 m0,.int .i64 m1,.string m2]) 0).run Tryd.prog W= .ok (.int .i64 m0) W:=fun W=>by rfl
    clear hnx;obtain ⟨a5,c5,rfl⟩:=Kd.gI HR.out;go_wp2_with fail
    refine HNC.out.mono ?_
    rintro E w3 ⟨rfl,iV⟩
    have HPs:=aC.mk (HPr.out.below iV);have HKs:=aC.mk (HKr.out.trans (KeepBut.fS iV g none) (.inl rfl));have HRs:=aC.mk (Kd.dC HR.out iV);clear HNC iV HPr HKr HR;by_cases hm:m0=3
    ·subst hm;have HT:aC (stmtsP e n (deep+1) l.tail= .ok acc l'.tail):=⟨by
      rw [← HE.out];simp only [stmtsP];rw [HNX.out,if_pos rfl];simp [consO]⟩
     have hcons:l'=⟨3,m1,m2⟩::l'.tail:=by
      have:=JI (l:=l') (e:=e) (by rw [HNX.out];show (3:Int)≠0;decide);rwa [HNX.out] at this
     have hPc:=HPs.out;rw [hcons] at hPc;have HPc:=aC.mk hPc;clear hcons hPc HE HI HNX;go_wp2_with fail
     refine (vI HPc.out (show (3:Int)≠0 by decide)).mono ?_
     rintro E w4 ⟨rfl,lW,jF⟩
     have apQ:=aC.mk (Kd.BJ HRs.out jF (fun k_ hk=>by omega));have alY:=aC.mk lW;have ayK:=aC.mk (HKs.out.trans jF (.inl rfl));clear lW jF;go_wp2_with fail
     go_ret
     show BlockPost w0 w g e _ _ _
     rw [HS.out,HT.out];exact ⟨_,rfl,apQ.out,alY.out,ayK.out⟩
    ·have q:(m0 !=3)=true:=bne_iff_ne.mpr hm;have hI:=HI.out;have hL:=HL.out;have hLL:=HLL.out;have hkd: ∀ t∈l',t.f0≠0:=fun t ht=>HKD.out t ((hI.1.trans (tE l)).subset ht)
     have HST:=aqL (deep:=deep+1) (blockW e (stmtsP e n1) (deep+1)) (fun l A r hb=>DW (fun d l A r bR=>E5 n1 bR) hb)
      (fun w r hP hr=>IH.out n1 (by omega) w r (deep+1) hP (fun t ht=>hkd t ((hr.trans (tE l')).subset ht)) (by have:=hr.length_le;have:l'.tail.length=l'.length - 1:=List.length_tail;omega) (by have:=hr.length_le;have:l'.tail.length=l'.length - 1:=List.length_tail;omega) (by omega) (by omega))
      HPs.out hkd hG
     obtain ⟨os,hos⟩: ∃ o,stmtW e (blockW e (stmtsP e n1) (deep+1)) l'=o:=⟨_,rfl⟩;rw [hos] at HST;have adD:aC (consO acc (thenS (stmtsP e n1 (deep+1)) os)=stmtsP e n (deep+1) l.tail):=⟨by
      rw [← HE.out,← hos];simp only [stmtsP];rw [HNX.out,if_neg hm]⟩
     have hsf: ∀ s r,os= .ok s r→r<:+l'.tail:=fun s r h=>SP (fun l A r hb=>DW (fun d l A r bR=>E5 n1 bR) hb) (hos.trans h)
     have HSF:=aC.mk hsf;have HSTA:=aC.mk HST;have aa5:aC (∀ s r,os= .ok s r→0<l'.length):=aC.mk fun s r h=>af2 (hos.trans h)
     clear hI hL hLL hkd HST hos hsf hm HE HNX;go_wp2_with fail
     refine HSTA.out.mono ?_
     cases os with
     |bad xa xb=>
      rintro E w4 ⟨rfl,p8,mX⟩
      clear HSTA;go_wp2_with fail
      refine ⟨rfl,?_⟩;show BlockPost w0 w g e _ _ _
      rw [HS.out,← adD.out];exact ⟨rfl,p8,HKs.out.trans mX (.inl rfl)⟩
     |ok s r=>
      rintro E w4 ⟨vA,vB,rfl,WR,UO,uL,mX⟩
      obtain ⟨aA,cA,rfl⟩:=Kd.gI WR;obtain ⟨aB,cB,rfl⟩:=Kd.gI UO;have OZ:w.heap.size≤w3.heap.size:=HKs.out.1;have ax5:=aC.mk OZ;have atB:aC (k86.M w4 w.heap.size (fun k=>w3.heap.size≤k) s [.int .i64 s.f0,.int .i64 s.f1,.string s.f2,.slice aA s.f3.length cA,.slice aB s.f4.length cB]):=aC.mk (BS w4 w.heap.size _ s (Kd.iW WR OZ) (Kd.iW UO OZ));have PQ:=aC.mk (Kd.BJ HRs.out mX (fun k_ hk=>by omega));have hob: ∀ k,(Value.slice a5 acc.length c5).ownBlock=some k→w.heap.size≤k∧k<w3.heap.size:=fun k hk=>by
       have h1:=(Kd.i1 HRs.out).1 k hk;exact ⟨h1.1,h1.2.2.1⟩
      have HOB:=aC.mk hob;have amO:=aC.mk uL;have SZ:=aC.mk (HKs.out.trans mX (.inl rfl));have HLN:aC (r<:+l'.tail∧0<l'.length):=aC.mk ⟨HSF.out s r rfl,aa5.out s r rfl⟩;have HLA:aC (acc.length≤1000000):=aC.mk (by have:=HI.out;have:=HL.out;have:=HLL.out;omega);clear HSTA WR UO uL mX HRs HKs HPs OZ hob HSF aa5;go_wp2_with (((with_reducible refine lB (b:=.append) (xs:=#[.tmp 22,.tmp 27]) rfl ?_);at_builtin;refine Kd.n9 k86 (w0:=w4) w.heap.size rfl (.tmp 22) (.tmp 27) 44 86 (.agg #[(.int .i64 0),(.int .i64 0),(.string ⟨#[]⟩),(.slice none 0 0),(.slice none 0 0)]) 80 rfl Tryd.underlying44 info86 rfl (by decide) (by omega) (.slice a5 acc.length c5) acc s [.int .i64 s.f0,.int .i64 s.f1,.string s.f2,.slice aA s.f3.length cA,.slice aB s.f4.length cB] (fun k_=>w.heap.size≤k_) (fun k_=>w3.heap.size≤k_) rfl (by first|(go_simp;done)|(go_simp;rfl)) ?aP ?aK ?aF ?aO ?aB ?aS ?aL ?_;(case aP=>exact atB.out);(case aK=>exact (fun k_ hk=>⟨Nat.le_trans ax5.out hk,fun he=>by have:=(HOB.out k_ he.symm).2;omega⟩));(case aF=>exact (fun k_ hk=>Nat.le_trans SZ.out.1 hk));(case aO=>exact PQ.out);(case aB=>exact Below.refl _ _);(case aS=>exact SZ.out.1);(case aL=>have:=HLA.out;omega);intro v6 w5 ho hb hg hat;have an3:=aC.mk ho;have iF:=aC.mk hg;clear ho hb hg hat))
      go_roundg n1
      case rel=>
       have hob:=HOB.out;have hps:=amO.out;have h0:w0.heap.size≤w.heap.size:=HGE.out;refine ⟨r,acc++ [s],an3,aC.mk (hps.grown iF.out (fun k hk=>⟨Nat.le_trans h0 (hob k hk).1,by have:=(hob k hk).1;omega⟩)),aC.mk (SZ.out.trans (KeepBut.YC iF.out g) ?_),⟨by rw [← aoL];exact adD.out⟩,aC.mk ?_⟩
       ·cases hk:(Value.slice a5 acc.length c5).ownBlock with
        |none=>exact .inl rfl
        |some b=>exact .inr ⟨b,rfl,(hob b hk).1⟩
       ·have h1:=HLN.out;have h2:=HI.out;have h3:=h1.1.length_le;have h4:l'.tail.length=l'.length - 1:=List.length_tail;refine ⟨(h1.1.trans (tE l')).trans h2.1,by omega,?_,by omega⟩;rw [List.length_append,List.length_singleton];omega
      case measure=>omega
 ·have q:(t0 !=2)=true:=bne_iff_ne.mpr ht;have HS:aC (blockW e (stmtsP e n) deep l= .bad t1 7):=⟨by unfold blockW;rw [HNX.out,if_pos ht]⟩;clear ht;go_wp2_with fail
  refine (kV.out.D6 dI.out 7).mono ?_
  rintro E w2 ⟨rfl,bR,jQ⟩
  rw [HNX.out];go_wp2_with fail
  refine ⟨rfl,?_⟩;rw [HS.out];exact ⟨rfl,bR,jQ⟩
end Go.Proofs.YtkmafndljelopaaDoor.Q
