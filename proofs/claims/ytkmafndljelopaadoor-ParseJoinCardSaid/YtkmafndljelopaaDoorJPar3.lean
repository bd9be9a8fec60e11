/- Par3: put together by wip/merge.py. -/
import Derived.Test.YtkmafndljelopaaDoorJPar2
import Derived.Test.YtkmafndljelopaaDoorJLexTok
import Derived.Deep.RegionHeld
namespace Go.Proofs.YtkmafndljelopaaDoor.Q
open Go.RowKit Go.Proofs.YtkmafndljelopaaDoorW.PrintWords Go.Proofs.YtkmafndljelopaaDoorW.PrintLast Go.Proofs.YtkmafndljelopaaDoorW.PrintMore Go.Proofs.YtkmafndljelopaaDoor.Lx
set_option linter.unusedVariables false
set_option linter.unusedSimpArgs false
def progP (e:Int) (N:Nat):Nat→List Tok6→P6→Out P6
 |0,_,_=>.bad 0 0
 |n+1,l,p=>match l with
  |[]=>.ok p []
  |t::r=>match declW e (blockW e (stmtsP e N) 0) (t::r) p with
   | .bad a b=>.bad a b
   | .ok p' r'=>progP e N n r' p'
def gY.f (a0:ByteArray):Option (List De6×List De6×List Fn6×Int×Int):=
 match r9.f a0 with
 |none=>none
 |some (ts,at_,er)=>if er≠0 then some ([],[],[],at_,er) else
  match progP (a0.size:Int) ts.length (ts.length+1) ts ⟨[],[],[]⟩ with
  | .ok p _=>some (p.vs,p.ls,p.fs,0,0)
  | .bad a b=>some ([],[],[],a,b)
theorem Bnd.nil:Bnd []:= .mk (by simp) (by simp) (by simp)
theorem ahY {e:Int} {ss:Int→List Tok6→Out (List St6)} (h: ∀ d l A r,l.length≤1000000→ss d l= .ok A r→Bnd A) {deep:Int} {l:List Tok6} {A:List St6} {r:List Tok6} (hl:l.length≤1000000) (hb:blockW e ss deep l= .ok A r):Bnd A:=by
 unfold blockW at hb
 split at hb
 ·cases hb
 ·split at hb
  ·cases hb
  ·exact h _ _ _ _ (by rw [List.length_tail];omega) hb
theorem ay9 {e:Int} {bl:List Tok6→Out (List St6)} (hs: ∀ l A r,bl l= .ok A r→r<:+l) (h: ∀ l A r,l.length≤1000000→bl l= .ok A r→Bnd A) {l:List Tok6} {s:St6} {r:List Tok6} (hl:l.length≤1000000) (hb:stmtW e bl l= .ok s r):Bnd s.f3∧Bnd s.f4:=by
 have ht: ∀ (l:List Tok6),l.length≤1000000→l.tail.length≤1000000:=fun l h=>by rw [List.length_tail];omega
 unfold stmtW at hb
 split at hb
 ·cases hb
 split at hb
 ·cases hb
 split at hb
 ·split at hb
  ·injection hb with h1 h2
   subst h1;exact ⟨.nil,.nil⟩
  ·cases hb
 ·split at hb
  ·cases hb
  ·rename_i A r1 h1
   have hA:=h _ _ _ (ht _ hl) h1;have jM:r1.length≤1000000:=Nat.le_trans (hs _ _ _ h1).length_le (ht _ hl);split at hb
   ·injection hb with h3 h4
    subst h3;exact ⟨hA,.nil⟩
   ·split at hb
    ·split at hb
     ·cases hb
     ·rename_i B r2 h2
      injection hb with h3 h4
      subst h3;exact ⟨hA,h _ _ _ (ht _ jM) h2⟩
    ·injection hb with h3 h4
     subst h3;exact ⟨hA,.nil⟩
theorem aaW {e:Int} : ∀ (n:Nat) (deep:Int) (l:List Tok6) (A:List St6) (r:List Tok6),l.length≤1000000→stmtsP e n deep l= .ok A r→Bnd A∧A.length+r.length≤l.length
 |0,_,_,_,_,_,h=>by simp [stmtsP] at h
 |n+1,deep,l,A,r,hl,h=>by
  have ih:=aaW (e:=e) n;simp only [stmtsP] at h;split at h
  ·injection h with h1 h2
   subst h1 h2;exact ⟨.nil,by rw [List.length_tail];simp only [List.length_nil];omega⟩
  ·cases h1:stmtW e (blockW e (stmtsP e n) deep) l with
   |bad a b=>rw [h1] at h;cases h
   |ok s r1=>
    rw [h1] at h;simp only [thenS] at h;split at h
    ·cases h
    ·rename_i ss r2 h2
     injection h with h3 h4
     subst h3 h4;have hsf:=SP (fun l A r hb=>DW (fun d l A r bR=>E5 n bR) hb) h1;have hne:=af2 h1;have hlen:=hsf.length_le;rw [List.length_tail] at hlen;have fM:=ay9 (fun l A r hb=>DW (fun d l A r bR=>E5 n bR) hb) (fun l A r hl hb=>ahY (fun d l A r hl h=>(ih d l A r hl h).1) hl hb) hl h1;obtain ⟨bR,hle⟩:=ih deep r1 ss r2 (by omega) h2;cases bR with
     |mk h5 h6 h7=>
      refine ⟨.mk (by simp only [List.length_cons];omega) (fun x hx=>?_) (fun x hx=>?_),by simp only [List.length_cons];omega⟩
      ·rcases List.mem_cons.1 hx with rfl|hx
       ·exact fM.1
       ·exact h6 x hx
      ·rcases List.mem_cons.1 hx with rfl|hx
       ·exact fM.2
       ·exact h7 x hx
structure PSm (p:P6) (m:Nat):Prop where
 vs:p.vs.length+m≤1000000
 ls:p.ls.length+m≤1000000
 fs:p.fs.length+m≤1000000
 bnd: ∀ x∈p.fs,Bnd x.f2
theorem RQ {α:Type} {e:Int} {l:List Tok6} {k:ByteArray→List Tok6→Out α} {p:α} {r:List Tok6} (h:nameW e l k= .ok p r):k (nx l e).f2 l.tail= .ok p r:=by
 unfold nameW at h
 split at h
 ·exact h
 ·cases h
theorem atZ {e:Int} {bl:List Tok6→Out (List St6)} (hs: ∀ l A r,bl l= .ok A r→r<:+l) (h: ∀ l A r,l.length≤1000000→bl l= .ok A r→Bnd A) {t:Tok6} {l:List Tok6} {p p':P6} {r:List Tok6} (hp:PSm p (t::l).length) (hb:declW e bl (t::l) p= .ok p' r):PSm p' r.length∧r<:+l:=by
 obtain ⟨h1,h2,h3,h4⟩:=hp;simp only [List.length_cons] at h1 h2 h3;unfold declW at hb
 split at hb
 ·have hb:=RQ hb;injection hb with h5 h6
  subst h5 h6;refine ⟨⟨?_,?_,?_,h4⟩,List.tail_suffix _⟩<;>simp only [List.length_append,List.length_cons,List.length_nil,List.tail_cons,List.length_tail]<;>omega
 ·split at hb
  ·have hb:=RQ hb;injection hb with h5 h6
   subst h5 h6;refine ⟨⟨?_,?_,?_,h4⟩,List.tail_suffix _⟩<;>simp only [List.length_append,List.length_cons,List.length_nil,List.tail_cons,List.length_tail]<;>omega
  ·split at hb
   ·have hb:=RQ hb;split at hb
    ·cases hb
    ·rename_i A r2 h5
     injection hb with h6 h7
     subst h6 h7;have hsf:=(hs _ _ _ h5).trans (List.tail_suffix _);have hle:=hsf.length_le;simp only [List.tail_cons] at hle;refine ⟨⟨?_,?_,?_,?_⟩,hsf⟩
     ·show p.vs.length+_≤_
      omega
     ·show p.ls.length+_≤_
      omega
     ·simp only [List.length_append,List.length_cons,List.length_nil];omega
     ·intro x hx;rcases List.mem_append.1 hx with hx|hx
      ·exact h4 x hx
      ·obtain rfl:=List.mem_singleton.1 hx;refine h _ _ _ ?_ h5;simp only [List.tail_cons,List.length_tail];omega
   ·cases hb
theorem IM (s:ByteArray): ∀ (l:List UInt8) (i e:Nat) (acc:List Tok),(∀ t∈acc,t.f0≠0)→(∀ t∈(tokScan s l i e acc).1,t.f0≠0)∧(tokScan s l i e acc).1.length≤acc.length+l.length
 |[],i,e,acc,h=>⟨h,by simp [tokScan]⟩
 |c::r,i,e,acc,h=>by
  have app: ∀ (t:Tok),t.f0≠0→ ∀ x∈acc++ [t],x.f0≠0:=fun t ht x hx=>by
   rcases List.mem_append.1 hx with hx|hx
   ·exact h x hx
   ·rw [List.mem_singleton.1 hx];exact ht
  simp only [tokScan];split
  ·have:=IM s r (i+1) e acc h;exact ⟨this.1,by simp only [List.length_cons];omega⟩
  ·split
   ·have:=IM s r (i+1) e _ (app ⟨2,i,⟨#[]⟩⟩ (show (2:Int)≠0 by decide));refine ⟨this.1,?_⟩;have:=this.2;simp only [List.length_append,List.length_cons,List.length_nil] at this ⊢;omega
   ·split
    ·have:=IM s r (i+1) e _ (app ⟨3,i,⟨#[]⟩⟩ (show (3:Int)≠0 by decide));refine ⟨this.1,?_⟩;have:=this.2;simp only [List.length_append,List.length_cons,List.length_nil] at this ⊢;omega
    ·split
     ·have:=IM s r (i+1) (i+sgnRow (c::r)) _ (app ⟨1,i,s.extract i (i+sgnRow (c::r))⟩ (show (1:Int)≠0 by decide));refine ⟨this.1,?_⟩;have:=this.2;simp only [List.length_append,List.length_cons,List.length_nil] at this ⊢;omega
     ·exact ⟨by simp,by simp⟩
theorem au3 {s:ByteArray} {ts:List Tok6} {a e:Int} (h:r9.f s=some (ts,a,e)):(∀ t∈ts,t.f0≠0)∧ts.length≤2000:=by
 unfold r9.f at h
 split at h
 ·injection h with h
  injection h with h1 h2
  subst h1;exact ⟨by simp,by simp⟩
 ·rename_i hs
  injection h with h
  have h2:=IM s s.data.toList 0 0 [] (by simp);rw [h] at h2;refine ⟨h2.1,?_⟩;have h3:=h2.2;have:s.data.toList.length=s.size:=by rw [Array.length_toList];rfl
  simp only [List.length_nil] at h3;omega
theorem EY {W:World} {b o j:Nat} {v u0 u1 u2:Value} (h:b≠o) (f:W.cell? ⟨b,j,none⟩=some v):(((W.setCell ⟨o,0,none⟩ u0).setCell ⟨o,1,none⟩ u1).setCell ⟨o,2,none⟩ u2).cell? ⟨b,j,none⟩=some v:=by
 rw [World.cell?_setCell_far _ _ _ _ h.symm,World.cell?_setCell_far _ _ _ _ h.symm,World.cell?_setCell_far _ _ _ _ h.symm];exact f
theorem ZI {W:World} {b o n j:Nat} {v u0 u1 u2 u3:Value} (h:b≠o) (h2:b≠n) (f:W.cell? ⟨b,j,none⟩=some v):((((W.setCell ⟨o,0,none⟩ u0).setCell ⟨o,1,none⟩ u1).setCell ⟨o,2,none⟩ u2).setCell ⟨n,0,none⟩ u3).cell? ⟨b,j,none⟩=some v:=by
 rw [World.cell?_setCell_far _ _ _ _ h2.symm];exact EY h f
theorem asO {W:World} {o n:Nat} {v u0 u1 u2:Value} (h:n≠o) (f:W.cell? ⟨n,0,none⟩=some v):((((W.setCell ⟨o,0,none⟩ u0).setCell ⟨o,1,none⟩ u1).setCell ⟨o,2,none⟩ u2).setCell ⟨n,0,none⟩ v).cell? ⟨n,0,none⟩=some v:=
 World.cell?_setCell_same _ _ _ (EY h f)
structure Re (w:World) (o n r:Nat) (v1 v2 v3:Value) (a e:Int):Prop where
 ho:w.heap[o]? =some (.cells #[v1,v2,v3] 30 (0,0))
 hn:w.heap[n]? =some (.cells #[.int .i64 a] 3 (0,0))
 hr:w.heap[r]? =some (.cells #[.int .i64 e] 36 (0,0))
 hne:n≠o∧r≠o∧r≠n
theorem Re.below {w w':World} {o n r:Nat} {v1 v2 v3:Value} {a e:Int} (h:Re w o n r v1 v2 v3 a e) (hb:Below w.heap.size w w'):Re w' o n r v1 v2 v3 a e:=⟨dB h.ho hb,dB h.hn hb,dB h.hr hb,h.hne⟩
theorem Re.alloc {w:World} {o n r:Nat} {v1 v2 v3:Value} {a e:Int} (h:Re w o n r v1 v2 v3 a e) (x:Obj):Re (w.alloc x) o n r v1 v2 v3 a e:=h.below (aI (Below.refl _ _) x)
def putR (w:World) (o n r:Nat) (v1 v2 v3:Value) (a e:Int):World:=((((w.setCell ⟨o,0,none⟩ v1).setCell ⟨o,1,none⟩ v2).setCell ⟨o,2,none⟩ v3).setCell ⟨n,0,none⟩ (.int .i64 a)).setCell ⟨r,0,none⟩ (.int .i64 e)
theorem Re.put {w:World} {o n r:Nat} {u1 u2 u3:Value} {a0 e0:Int} (h:Re w o n r u1 u2 u3 a0 e0) (v1 v2 v3:Value) (a e:Int):Re (putR w o n r v1 v2 v3 a e) o n r v1 v2 v3 a e:=by
 have ho:=dT (p:=⟨r,0,none⟩) (dT (p:=⟨n,0,none⟩) (bX (bX (bX h.ho 0 v1 rfl) 1 v2 rfl) 2 v3 rfl) h.hne.1.symm (.int .i64 a)) h.hne.2.1.symm (.int .i64 e);have hn:=dT (p:=⟨r,0,none⟩) (bX (dT (p:=⟨o,2,none⟩) (dT (p:=⟨o,1,none⟩) (dT (p:=⟨o,0,none⟩) h.hn h.hne.1 v1) h.hne.1 v2) h.hne.1 v3) 0 (.int .i64 a) rfl) h.hne.2.2.symm (.int .i64 e);have hr:=bX (dT (p:=⟨n,0,none⟩) (dT (p:=⟨o,2,none⟩) (dT (p:=⟨o,1,none⟩) (dT (p:=⟨o,0,none⟩) h.hr h.hne.2.1 v1) h.hne.2.1 v2) h.hne.2.1 v3) h.hne.2.2 (.int .i64 a)) 0 (.int .i64 e) rfl;exact ⟨ho,hn,hr,h.hne⟩
theorem RT {b:Nat} {W w:World} {o n r:Nat} (h:Below b W w) (hb:b≤o∧b≤n∧b≤r) (v1 v2 v3:Value) (a e:Int):Below b W (putR w o n r v1 v2 v3 a e):=
 ((((h.setCell hb.1 _).setCell hb.1 _).setCell hb.1 _).setCell hb.2.1 _).setCell hb.2.2 _
def caughtP (w:World) (o n r:Nat) (a e:Int):World:=
 (putR (w.alloc (.cells #[.int .i64 a,.int .i64 e] 65)) o n r (.slice none 0 0) (.slice none 0 0) (.slice none 0 0) a e).drew
set_option maxRecDepth 20000 in
set_option maxHeartbeats 800000 in
theorem az5 {o n r:Nat} {w:World} {v1 v2 v3:Value} {a0 e0:Int} (a e:Int) (h:Re w o n r v1 v2 v3 a0 e0):
  CallsD Tryd.prog 32 #[.pointer (some ⟨o,0,none⟩),.pointer (some ⟨n,0,none⟩),.pointer (some ⟨r,0,none⟩)] (.panicking (wrongP a e)) w fun E u' w'=>
   E= .returned (.tuple #[])∧u'= .panicking [{ v:=.iface 65 (.agg #[.int .i64 a,.int .i64 e]),recovered:=true }]∧caughtP w o n r a e=w':=by
 have hta: ∀ (W:World),(Instr.typeAssert (.iface 65 (.agg #[.int .i64 a,.int .i64 e])) 20 65 true).run Tryd.prog W= .ok (.tuple #[.agg #[.int .i64 a,.int .i64 e],.bool true]) W:=fun W=>by rfl
 have wQ:=Tryd.underlying30;have TH:=Tryd.underlying65;have hbo:w.heap.size≠o:=by have:=iR h.ho;omega
 have hbn:w.heap.size≠n:=by have:=iR h.hn;omega
 have hbr:w.heap.size≠r:=by have:=iR h.hr;omega
 have A2:=aC.mk (h.alloc (.cells #[.int .i64 a,.int .i64 e] 65));have B1:=aC.mk (gC w (.cells #[.int .i64 a,.int .i64 e] 65));refine callsD_of_wpS Tryd.func32 rfl fun c₀ cs hu=>?_
 apply wpS_seq;apply wpS_region;simp [wpOpsS,go_sem,recoverD,hu,Tryd.ntmps32,Exit.thenS,wrongP,hta,TH]
 simp only [Array.replicate_succ,Array.replicate_zero,List.push_toArray,q1_,q2_,q3_,List.append_toArray,List.cons_append,List.nil_append,Array.replicate_zero];refine wpS_of_wp ?_
 go_upto_region 2 with fail
 have HCW:aC (caughtP w o n r a e=(putR (w.alloc (.cells #[.int .i64 a,.int .i64 e] 65)) o n r (.slice none 0 0) (.slice none 0 0) (.slice none 0 0) a e).drew):=⟨rfl⟩;generalize w.alloc (.cells #[.int .i64 a,.int .i64 e] 65)=X at A2 B1 HCW ⊢;generalize w.heap.size=b at *;have f0:=aD B1.out 0;have f1:=aD B1.out 1;have o0:=aD A2.out.ho 0;have o1:=aD A2.out.ho 1;have o2:=aD A2.out.ho 2;have y0:=aT A2.out.ho 0;have y1:=aT A2.out.ho 1;have y2:=aT A2.out.ho 2;have xP:=aD A2.out.hn 0;have nK:=aT A2.out.hn 0;have eX:=aD A2.out.hr 0;have jM:=aT A2.out.hr 0;obtain ⟨hno,hro,hrn⟩:=h.hne;clear h
 refine mK (n:=8) (S:=fun w'=>w'.cell? ⟨b,0,none⟩=some (.int .i64 a)∧w'.cell? ⟨b,1,none⟩=some (.int .i64 e)) (ds:=[7]) #[false,false,false,false,false,false,false,false] (by kernel_rfl) rfl rfl ⟨f0,f1⟩ (fun hHeld=>?_);refine bE (i:=0) (N:=some 11) (v:=?_) (a':=?_) #[true,false,false,false,false,false,false,false] rfl rfl (by kernel_rfl) (fun _ _ _ h=>h) (Or.inl ⟨by rfl,?_⟩) ?_ ?_
 rotate_left;·intro w';go_simp;with_reducible rfl
 rotate_left;·simp only [Act.put,q1_,q2_,q3_,aG,aH];rfl
 refine bE (i:=1) (N:=some 12) (v:=?_) (a':=?_) #[true,true,false,false,false,false,false,false] rfl rfl (by kernel_rfl) (fun _ _ _ h=>h) (Or.inl ⟨by rfl,?_⟩) ?_ ?_
 rotate_left;·intro w';go_simp;with_reducible rfl
 rotate_left;·simp only [Act.put,q1_,q2_,q3_,aG,aH];rfl
 refine bE (i:=3) (N:=some 14) (v:=?_) (a':=?_) #[true,true,false,true,false,false,false,false] rfl rfl (by kernel_rfl) (fun _ _ _ h=>h) (Or.inl ⟨by rfl,?_⟩) ?_ ?_
 rotate_left;·intro w';go_simp;with_reducible rfl
 rotate_left;·simp only [Act.put,q1_,q2_,q3_,aG,aH];rfl
 refine eC (i:=2) (N:=some 13) (v:=?_) (a':=?_) #[true,true,true,true,false,false,false,false] rfl rfl (by kernel_rfl) (fun _ _ _ h=>h) (Or.inl ⟨by rfl,?_⟩) hHeld ?_ ?_
 rotate_left
 ·rintro w' ⟨s0,s1⟩
  go_simp;with_reducible rfl
 rotate_left;·simp only [Act.put,q1_,q2_,q3_,aG,aH];rfl
 refine eC (i:=4) (N:=some 15) (v:=?_) (a':=?_) #[true,true,true,true,true,false,false,false] rfl rfl (by kernel_rfl) (fun _ _ _ h=>h) (Or.inl ⟨by rfl,?_⟩) hHeld ?_ ?_
 rotate_left
 ·rintro w' ⟨s0,s1⟩
  go_simp;with_reducible rfl
 rotate_left;·simp only [Act.put,q1_,q2_,q3_,aG,aH];rfl
 refine one_ (i:=5) (N:=none) #[true,true,true,true,true,true,false,false] rfl rfl (by kernel_rfl) (by decide) (fun K hK=>?_);refine lV (w1:=?_) (by rfl) rfl ?_ ?_
 rotate_left;·go_simp;rfl
 refine hK.out _ _ ⟨EY hbo f0,EY hbo f1⟩ (fun hHeld=>?_);clear hK K;refine one_ (i:=6) (N:=none) #[true,true,true,true,true,true,true,false] rfl rfl (by kernel_rfl) (by decide) (fun K hK=>?_);refine lV (w1:=?_) (by rfl) rfl ?_ ?_
 rotate_left;·go_simp;rfl
 refine hK.out _ _ ⟨ZI hbo hbn f0,ZI hbo hbn f1⟩ (fun hHeld=>?_);clear hK K;refine nZ (i:=7) (N:=none) #[true,true,true,true,true,true,true,true] rfl rfl (by kernel_rfl) (by decide) (fun K hK=>?_);refine lV (w1:=?_) (by rfl) rfl ?_ ?_
 rotate_left;·go_simp;rfl
 refine hK.out _ _ ?_
 clear hK K;refine mP (by kernel_rfl) ?_
 clear hHeld f0 f1 o0 o1 o2 y0 y1 y2 xP nK eX jM;go_wp2
 cases c₀
 have HC:=HCW.out;simp [bodyPostS,results,Tryd.results32,go_sem]
 exact HC
set_option maxRecDepth 20000 in
set_option maxHeartbeats 400000 in
theorem aqJ (o n r:Nat) (w:World):
  CallsD Tryd.prog 32 #[.pointer (some ⟨o,0,none⟩),.pointer (some ⟨n,0,none⟩),.pointer (some ⟨r,0,none⟩)] .returning w fun E u' w'=>
   E= .returned (.tuple #[])∧u'= .returning∧w.alloc (.cells #[.int .i64 0,.int .i64 0] 65)=w':=by
 have hta: ∀ (W:World),(Instr.typeAssert .nilIface 20 65 true).run Tryd.prog W= .ok (.tuple #[.agg #[.int .i64 0,.int .i64 0],.bool false]) W:=fun W=>by rfl
 have TH:=Tryd.underlying65;refine callsD_of_wpS Tryd.func32 rfl fun c₀ cs hu=>?_
 apply wpS_seq;apply wpS_region;simp [wpOpsS,go_sem,recoverD,hu,Tryd.ntmps32,Exit.thenS,hta,TH]
 simp only [Array.replicate_succ,Array.replicate_zero,List.push_toArray,q1_,q2_,q3_,List.append_toArray,List.cons_append,List.nil_append,Array.replicate_zero];refine wpS_of_wp ?_
 go_wp2
 cases c₀
 simp_all [bodyPostS,results,Tryd.results32]
theorem VL (T:Array Value) (o n r:Nat) (h2:T[2]?.getD undef= .pointer (some ⟨o,0,none⟩)) (h3:T[3]?.getD undef= .pointer (some ⟨n,0,none⟩)) (h4:T[4]?.getD undef= .pointer (some ⟨r,0,none⟩)) {W:World} {v1 v2 v3:Value} {a e:Int} (h:Re W o n r v1 v2 v3 a e):
  (results Tryd.f17 T).run Tryd.prog W= .ok (.tuple #[.agg #[v1,v2,v3],.int .i64 a,.int .i64 e]) W:=by
 have wQ:=Tryd.underlying30;have g0:=aD h.ho 0;have g1:=aD h.ho 1;have g2:=aD h.ho 2;have g3:=aD h.hn 0;have g4:=aD h.hr 0;simp [results,Tryd.results17,go_sem,h2,h3,h4,wQ,g0,g1,g2,g3,g4]
def EndP (w:World) (vs ls:List De6) (fs:List Fn6) (a e:Int) (E:Ending) (w':World):Prop:=
 ∃ mO qY zN:Value,E= .returned (.tuple #[.agg #[mO,qY,zN],.int .i64 a,.int .i64 e])∧Kd.V k59 59 w' w.heap.size (fun k_=>w.heap.size≤k_) mO vs∧Kd.V k59 59 w' w.heap.size (fun k_=>w.heap.size≤k_) qY ls∧Kd.V k46 46 w' w.heap.size (fun k_=>w.heap.size≤k_) zN fs∧Below w.heap.size w w'
abbrev defP (o n r:Nat):List Deferred:= [{ target:=Target.fn (Fn.func 32) #[.pointer (some ⟨o,0,none⟩),.pointer (some ⟨n,0,none⟩),.pointer (some ⟨r,0,none⟩)],args:= #[] }]
theorem aqR {w W:World} {T:Array Value} {o n r:Nat} (h2:T[2]?.getD undef= .pointer (some ⟨o,0,none⟩)) (h3:T[3]?.getD undef= .pointer (some ⟨n,0,none⟩)) (h4:T[4]?.getD undef= .pointer (some ⟨r,0,none⟩)) {v1 v2 v3:Value} {a0 e0:Int} (a e:Int)
  (h:Re W o n r v1 v2 v3 a0 e0) (hb:Below w.heap.size w W) (hg:w.heap.size≤o∧w.heap.size≤n∧w.heap.size≤r):
  bodyPostD Tryd.prog Tryd.f17 (EndP w [] [] [] a e) (Exit.panic (wrongP a e)) { tmps:=T,defers:=defP o n r } W:=by
 refine leaves_cons (f:=32) (args:=#[.pointer (some ⟨o,0,none⟩),.pointer (some ⟨n,0,none⟩),.pointer (some ⟨r,0,none⟩)]) (by simp) (by simp [go_sem]) ?_
 refine (az5 a e h).mono ?_
 rintro E u' w'' ⟨rfl,rfl,rfl⟩
 have hR:Re (caughtP W o n r a e) o n r (.slice none 0 0) (.slice none 0 0) (.slice none 0 0) a e:=by
  unfold caughtP
  exact Re.below ((h.alloc _).put _ _ _ a e) (zP (Below.refl _ _))
 refine ⟨_,VL T o n r h2 h3 h4 hR,?_⟩;have hB:Below w.heap.size w (caughtP W o n r a e):=by
  unfold caughtP
  exact zP (RT (aI hb _) hg _ _ _ a e)
 exact ⟨_,_,_,rfl,Kd.z7 _ _ _ _ _,Kd.z7 _ _ _ _ _,Kd.z7 _ _ _ _ _,hB⟩
theorem ar9 {w W:World} {T:Array Value} {o n r:Nat} (h2:T[2]?.getD undef= .pointer (some ⟨o,0,none⟩)) (h3:T[3]?.getD undef= .pointer (some ⟨n,0,none⟩)) (h4:T[4]?.getD undef= .pointer (some ⟨r,0,none⟩)) {v1 v2 v3:Value} {a e:Int} {vs ls:List De6} {fs:List Fn6}
  (h:Re W o n r v1 v2 v3 a e) (hv:OwnV W (fun k=>w.heap.size≤k) vs ls fs (.agg #[v1,v2,v3])) (hb:Below w.heap.size w W):
  bodyPostD Tryd.prog Tryd.f17 (EndP w vs ls fs a e) Exit.ret { tmps:=T,defers:=defP o n r } W:=by
 refine leaves_cons (f:=32) (args:=#[.pointer (some ⟨o,0,none⟩),.pointer (some ⟨n,0,none⟩),.pointer (some ⟨r,0,none⟩)]) (by simp) (by simp [go_sem]) ?_
 refine (aqJ o n r W).mono ?_
 rintro E u' w'' ⟨rfl,rfl,rfl⟩
 refine ⟨_,VL T o n r h2 h3 h4 (h.alloc _),?_⟩;obtain ⟨B1,d1,B2,d2,B3,d3,he,⟨l1,l2,l3⟩,f1,f2,f3⟩:=hv.out;injection he with he
 injection he with he
 injection he with M0 he
 injection he with GW he
 injection he with V4 he
 subst M0 GW V4;exact ⟨_,_,_,rfl,Kd.cQ (Kd.V_mk l1 f1) _,Kd.cQ (Kd.V_mk l2 f2) _,Kd.cQ (Kd.V_mk l3 f3) _,aI hb _⟩
structure Rn (w W0 wr:World) (o n r g base:Nat) (e a0 e0:Int) (l:List Tok6) (p:P6) (v1 v2 v3:Value):Prop where
 pg:Pg W0 wr g o base l e p v1 v2 v3
 re:Re W0 o n r v1 v2 v3 a0 e0
 bel:Below w.heap.size w W0
 ge:w.heap.size≤o∧w.heap.size≤n∧w.heap.size≤r
 bas:base=g+1
theorem Rn.at_ {w W0 wr w':World} {o n r g base:Nat} {e a0 e0:Int} {l:List Tok6} {p:P6} {v1 v2 v3:Value} (h:Rn w W0 wr o n r g base e a0 e0 l p v1 v2 v3) (hb:Below W0.heap.size W0 w'):Re w' o n r v1 v2 v3 a0 e0∧Below w.heap.size w w':=
 ⟨h.re.below hb,bQ h.bel hb⟩
theorem Rn.next {w W0 wr w':World} {o n r g base j:Nat} {e a0 e0:Int} {l l':List Tok6} {p p':P6} {v v1 v2 v3 afK aj6 aiT:Value} (h:Rn w W0 wr o n r g base e a0 e0 l p v1 v2 v3) (hp:Pg (W0.setCell ⟨o,j,none⟩ v) w' g o base l' e p' afK aj6 aiT):
  Rn w (W0.setCell ⟨o,j,none⟩ v) w' o n r g base e a0 e0 l' p' afK aj6 aiT:=
 ⟨hp,⟨(hp.ps.bel.block o hp.og.2.1).symm.trans hp.blk,dT (p:=⟨o,j,none⟩) h.re.hn h.re.hne.1 v,dT (p:=⟨o,j,none⟩) h.re.hr h.re.hne.2.1 v,h.re.hne⟩,h.bel.setCell h.ge.1 v,h.ge,h.bas⟩
theorem Rn.gl {w W0 wr:World} {o n r g base:Nat} {e a0 e0:Int} {l:List Tok6} {p:P6} {v1 v2 v3:Value} (h:Rn w W0 wr o n r g base e a0 e0 l p v1 v2 v3) (hG:GL w):GL W0:=hG.fS h.bel
theorem OwnV.put {w W:World} {okA:Nat→Prop} {o n r s:Nat} {vs ls:List De6} {fs:List Fn6} {v:Value} (h:OwnV W okA vs ls fs v) (hk: ∀ k,okA k→s≤k) (hs:w.heap.size≤s) (hf:o<s∧n<s∧r<s) (v1 v2 v3:Value) (a e:Int):OwnV (putR W o n r v1 v2 v3 a e) (fun k=>w.heap.size≤k) vs ls fs v:=by
 obtain ⟨B1,d1,B2,d2,B3,d3,he,hl,f1,f2,f3⟩:=h.out;have far: ∀ {α:Type} {d:Kd α} {A:Option Addr} {xs:List α},Kd.F d W okA A xs.length xs→Kd.F d (putR W o n r v1 v2 v3 a e) (fun k=>w.heap.size≤k) A xs.length xs:=fun hF=>
  Kd.oP (Kd.qD (Kd.qD (Kd.qD (Kd.qD (Kd.qD hF (p:=⟨o,0,none⟩) (fun k h_=>show k≠o by have:=hk k h_;omega) _) (p:=⟨o,1,none⟩) (fun k h_=>show k≠o by have:=hk k h_;omega) _) (p:=⟨o,2,none⟩) (fun k h_=>show k≠o by have:=hk k h_;omega) _) (p:=⟨n,0,none⟩) (fun k h_=>show k≠n by have:=hk k h_;omega) _) (p:=⟨r,0,none⟩) (fun k h_=>show k≠r by have:=hk k h_;omega) _) (fun k h_=>Nat.le_trans hs (hk k h_))
 exact ⟨B1,d1,B2,d2,B3,d3,he,hl,far f1,far f2,far f3⟩
def noPanic (Q:Exit→Act→World→Prop):Exit→Act→World→Prop
 | .panic _,_,_=>False
 |e,a,w=>Q e a w
theorem az0 {Q:Exit→Act→World→Prop} : ∀ e a w,noPanic Q e a w→Q e a w:=fun e a w h=>by
 cases e<;>first|exact h|exact h.elim
theorem ay5 {w W:World} {T:Array Value} {o n r:Nat} (h2:T[2]?.getD undef= .pointer (some ⟨o,0,none⟩)) (h3:T[3]?.getD undef= .pointer (some ⟨n,0,none⟩)) (h4:T[4]?.getD undef= .pointer (some ⟨r,0,none⟩)) {a e:Int}
  (h:Re W o n r (.slice none 0 0) (.slice none 0 0) (.slice none 0 0) a e) (hb:Below w.heap.size w W):
  bodyPostD Tryd.prog Tryd.f17 (EndP w [] [] [] a e) Exit.ret { tmps:=T,defers:=[] } W:=
 ⟨_,VL T o n r h2 h3 h4 h,_,_,_,rfl,Kd.z7 _ _ _ _ _,Kd.z7 _ _ _ _ _,Kd.z7 _ _ _ _ _,hb⟩
set_option maxRecDepth 100000 in
set_option maxHeartbeats 1600000 in
theorem gY.calls (a0:ByteArray) (r1 r2:List De6) (r3:List Fn6) (r4 r5:Int) (w:World) (h:gY.f a0=some (r1,r2,r3,r4,r5)) (hG:GL w):
  Calls Tryd.prog 17 #[.string a0] w fun e w'=>∃ mO qY zN:Value,e= .returned (.tuple #[.agg #[mO,qY,zN],.int .i64 r4,.int .i64 r5])∧Kd.V k59 59 w' w.heap.size (fun k_=>w.heap.size≤k_) mO r1∧Kd.V k59 59 w' w.heap.size (fun k_=>w.heap.size≤k_) qY r2∧Kd.V k46 46 w' w.heap.size (fun k_=>w.heap.size≤k_) zN r3∧Below w.heap.size w w':=by
 show Calls Tryd.prog 17 #[.string a0] w (EndP w r1 r2 r3 r4 r5)
 have wQ:=Tryd.underlying30;have aNH:=Tryd.underlying69;have hmf: ∀ (fn:Fn) (first cap:Array Value) (w:World),(Instr.makeFunc fn first cap).run Tryd.prog w= .ok (.func fn first cap) w:=fun _ _ _ _=>rfl
 obtain ⟨⟨ts,at_,er⟩,hT⟩: ∃ x,r9.f a0=some x:=by
  unfold gY.f at h
  cases hx:r9.f a0 with
  |none=>rw [hx] at h;cases h
  |some x=>exact ⟨x,rfl⟩
 have HK:=aC.mk (au3 hT);have HTC:=aC.mk (fun W=>r9.calls a0 ts at_ er W hT);have HG:=aC.mk hG;unfold gY.f at h
 rw [hT] at h;have H:=aC.mk h;clear h hT hG
 have s1:(w.alloc (.cells #[.slice none 0 0,.slice none 0 0,.slice none 0 0] 30)).heap.size=w.heap.size+1:=by simp only [World.alloc,Array.size_push]
 have s2:((w.alloc (.cells #[.slice none 0 0,.slice none 0 0,.slice none 0 0] 30)).alloc (.cells #[.int .i64 0] 3)).heap.size=w.heap.size+1+1:=by simp only [World.alloc,Array.size_push]
 have s3:(((w.alloc (.cells #[.slice none 0 0,.slice none 0 0,.slice none 0 0] 30)).alloc (.cells #[.int .i64 0] 3)).alloc (.cells #[.int .i64 0] 36)).heap.size=w.heap.size+1+1+1:=by simp only [World.alloc,Array.size_push]
 have ai5:Re (((w.alloc (.cells #[.slice none 0 0,.slice none 0 0,.slice none 0 0] 30)).alloc (.cells #[.int .i64 0] 3)).alloc (.cells #[.int .i64 0] 36)) w.heap.size (w.heap.size+1) (w.heap.size+1+1) (.slice none 0 0) (.slice none 0 0) (.slice none 0 0) 0 0:=by
  refine ⟨aQ (aQ (gC w _) _) _,?_,?_,by omega,by omega,by omega⟩;·have:=gC (w.alloc (.cells #[.slice none 0 0,.slice none 0 0,.slice none 0 0] 30)) (.cells #[.int .i64 0] 3);rw [s1] at this;exact aQ this _
  ·have:=gC ((w.alloc (.cells #[.slice none 0 0,.slice none 0 0,.slice none 0 0] 30)).alloc (.cells #[.int .i64 0] 3)) (.cells #[.int .i64 0] 36);rw [s2] at this;exact this
 have RE:=aC.mk ai5;have HB:=aC.mk (aI (aI (aI (Below.refl w.heap.size w) (.cells #[.slice none 0 0,.slice none 0 0,.slice none 0 0] 30)) (.cells #[.int .i64 0] 3)) (.cells #[.int .i64 0] 36));have jH:=aC.mk s3;clear ai5 s3;go_enter_defers Tryd.func17,Tryd.ntmps17
 go_wp2_with fail
 clear s1 s2;generalize ((w.alloc (.cells #[.slice none 0 0,.slice none 0 0,.slice none 0 0] 30)).alloc (.cells #[.int .i64 0] 3)).alloc (.cells #[.int .i64 0] 36)=X at RE HB jH ⊢;refine (HTC.out _).mono ?_
 rintro E w1 ⟨v,rfl,hR,hb⟩
 obtain ⟨A,c,rfl⟩:=Kd.gI hR;have hX:w.heap.size+1+1<X.heap.size:=by rw [jH.out];omega
 have R1:=aC.mk (RE.out.below hb);have cY:=aC.mk (bQ HB.out hb);have n0:=aD R1.out.hn 0;have n1:=aT R1.out.hn 0;have r0:=aD R1.out.hr 0;have r1:=aT R1.out.hr 0;go_upto_region 2 with fail
 clear n0 n1 r0 r1;have R2:aC (Re ((w1.setCell ⟨w.heap.size+1,0,none⟩ (.int .i64 at_)).setCell ⟨w.heap.size+1+1,0,none⟩ (.int .i64 er)) w.heap.size (w.heap.size+1) (w.heap.size+1+1) (.slice none 0 0) (.slice none 0 0) (.slice none 0 0) at_ er):=by
  have h1:=R1.out;refine ⟨⟨dT (p:=⟨w.heap.size+1+1,0,none⟩) (dT (p:=⟨w.heap.size+1,0,none⟩) h1.ho h1.hne.1.symm _) h1.hne.2.1.symm _,dT (p:=⟨w.heap.size+1+1,0,none⟩) (bX h1.hn 0 (.int .i64 at_) rfl) h1.hne.2.2.symm _,?_,h1.hne⟩⟩;exact bX (dT (p:=⟨w.heap.size+1,0,none⟩) h1.hr h1.hne.2.2 _) 0 (.int .i64 er) rfl
 have nF:=aC.mk (Kd.bH (p:=⟨w.heap.size+1+1,0,none⟩) (Kd.bH (p:=⟨w.heap.size+1,0,none⟩) (Kd.bW (Kd.i1 hR) (ok':=fun k=>X.heap.size≤k) (fun k hk=>hk.2.1)) (fun k hk=>show k≠w.heap.size+1 by omega) (.int .i64 at_)) (fun k hk=>show k≠w.heap.size+1+1 by omega) (.int .i64 er));have cR:=aC.mk (Below.setCell (Below.setCell cY.out (p:=⟨w.heap.size+1,0,none⟩) (Nat.le_succ _) (.int .i64 at_)) (p:=⟨w.heap.size+1+1,0,none⟩) (by show w.heap.size≤w.heap.size+1+1;omega) (.int .i64 er));generalize (w1.setCell ⟨w.heap.size+1,0,none⟩ (.int .i64 at_)).setCell ⟨w.heap.size+1+1,0,none⟩ (.int .i64 er)=Y at R2 nF cR ⊢;clear hR hX R1 cY RE HB jH hb;generalize hr_:w.heap.size+1+1=r at *;generalize hn_:w.heap.size+1=n at *;generalize hO:w.heap.size=o at R2 ⊢;have HGE:=aC.mk (show w.heap.size≤o∧w.heap.size≤n∧w.heap.size≤r by omega);clear hO hr_ hn_;by_cases hq:er=0
 ·have q:(er !=0)=false:=bne_eq_false_iff_eq.mpr hq;have rr:=aD R2.out.hr 0;go_wp2_with fail
  subst hq;have hh:=H.out;rw [if_neg (by simp)] at hh;have HH:=aC.mk hh;have aaC:Rn w Y (Y.alloc (.cells #[.slice A ts.length c,.int .i64 (a0.size:Int)] 69)) o n r Y.heap.size (Y.heap.size+1) (a0.size:Int) at_ 0 ts ⟨[],[],[]⟩ (.slice none 0 0) (.slice none 0 0) (.slice none 0 0):=by
   obtain ⟨hn',hc',hC'⟩:=Kd.iU nF.out;have hbe:=aI (Below.refl Y.heap.size Y) (.cells #[.slice A ts.length c,.int .i64 (a0.size:Int)] 69);have holt:=iR R2.out.ho;refine ⟨⟨⟨⟨A,c,gC Y _,hc',hC',fun a ha=>?_⟩,Nat.le_refl _,hbe⟩,aQ R2.out.ho _,Kd.jZ _ _ _ _ _,Kd.jZ _ _ _ _ _,Kd.jZ _ _ _ _ _,by omega,holt,by omega⟩,R2.out,cR.out,HGE.out,rfl⟩;exact Kd.DY nF.out a.block (by rw [ha];rfl)
  have RN:=aC.mk aaC;clear hh aaC rr q cR nF R2 H;generalize Y.alloc (.cells #[.slice A ts.length c,.int .i64 (a0.size:Int)] 69)=Z at RN ⊢;generalize Y.heap.size=g at RN ⊢;obtain ⟨tot,htot⟩: ∃ tot,progP (a0.size:Int) ts.length (ts.length+1) ts ⟨[],[],[]⟩=tot:=⟨_,rfl⟩;have HT:=aC.mk htot;have hh:=HH.out;rw [htot] at hh;have ag9:=aC.mk hh;clear hh HH htot;go_loopg [31] (ts.length+1) (fun k v31 wr=>∃ W0 l p v1 v2 v3,aC (Rn w W0 wr o n r g (g+1) (a0.size:Int) at_ 0 l p v1 v2 v3)∧aC (progP (a0.size:Int) ts.length k l p=tot)∧aC (l<:+ts∧l.length<k∧k≤ts.length+1∧PSm p l.length))
  case atStart=>exact ⟨_,ts,⟨[],[],[]⟩,_,_,_,RN,HT,⟨List.suffix_refl _,by omega,by omega,⟨by simpa using (by have:=HK.out.2;omega),by simpa using (by have:=HK.out.2;omega),by simpa using (by have:=HK.out.2;omega),by simp⟩⟩⟩
  case round=>
   obtain ⟨W0,l,p,v1,v2,v3,HR,HE,HI⟩:=hrel;obtain ⟨A',c',aaN,hlc,hCC,hTA⟩:=HR.out.pg.ps.blk;have k0:=aD aaN 0;have k1:wr.cell? ⟨g,0,none⟩=some (.slice A' l.length c'):=k0;clear k0 aaN hlc hCC hTA;cases l with
   |nil=>
    have k2:wr.cell? ⟨g,0,none⟩=some (.slice A' 0 c'):=k1;have hp:=HR.out.pg;obtain ⟨B1,d1,rfl⟩:=Kd.gI hp.r1;obtain ⟨B2,d2,rfl⟩:=Kd.gI hp.r2;obtain ⟨B3,d3,rfl⟩:=Kd.gI hp.r3;have F1:=aC.mk (Kd.oP (ok':=fun k=>g+1≤k) (Kd.R_F hp.r1) (fun k hk=>hk.1));have F2:=aC.mk (Kd.oP (ok':=fun k=>g+1≤k) (Kd.R_F hp.r2) (fun k hk=>hk.1));have F3:=aC.mk (Kd.oP (ok':=fun k=>g+1≤k) (Kd.R_F hp.r3) (fun k hk=>hk.1));obtain ⟨RW,hbw⟩:=HR.out.at_ hp.ps.bel;have o0:=aD RW.ho 0;have o1:=aD RW.ho 1;have o2:=aD RW.ho 2;have hg:=hp.og;have nK:=iR HR.out.re.hn;have jM:=iR HR.out.re.hr;have hgg:W0.heap.size≤g:=hp.ps.ge;have HFAR:aC (o<g∧n<g∧r<g):=⟨by omega,by omega,by omega⟩;have hgw:=hp.ps.lt;have HGW:aC (w.heap.size≤g∧g<wr.heap.size):=⟨by have:=HGE.out;omega,hgw⟩;obtain ⟨p1,p2,p3,p4⟩:=HI.out.2.2.2;have HSM:aC (p.vs.length≤1000000∧p.ls.length≤1000000∧p.fs.length≤1000000∧ ∀ x∈p.fs,Bnd x.f2):=⟨by omega,by omega,by omega,p4⟩;have HRW:=aC.mk RW;have HBW:=aC.mk hbw;clear k1 hp hg nK jM hgg hgw p1 p2 p3 p4 RW hbw;go_wp2_with fail
    refine (aAZ HSM.out.2.2.2 HSM.out.1 HSM.out.2.1 HSM.out.2.2.1 wr (fun k=>g+1≤k) F1.out F2.out F3.out).mono ?_
    rintro E w5 ⟨v,rfl,hO,oN⟩
    have HO:=aC.mk hO;have s9:=aC.mk oN;obtain ⟨C1,e1,C2,e2,C3,e3,rfl,-⟩:=hO.out;clear hO oN k2 o0 o1 o2;have R5:=aC.mk (HRW.out.below s9.out);have o0:=aD R5.out.ho 0;have o1:=aD R5.out.ho 1;have o2:=aD R5.out.ho 2;have y0:=aT R5.out.ho 0;have y1:=aT R5.out.ho 1;have y2:=aT R5.out.ho 2;have xP:=aD R5.out.hn 0;have nK:=aT R5.out.hn 0;have eX:=aD R5.out.hr 0;have jM:=aT R5.out.hr 0;obtain ⟨hno,hro,hrn⟩:=R5.out.hne;go_wp2_with fail
    have R6:=R5.out.put (.slice C1 p.vs.length e1) (.slice C2 p.ls.length e2) (.slice C3 p.fs.length e3) 0 0;have hx:=HE.out;cases gk with
    |zero=>exact absurd HI.out.2.1 (by omega)
    |succ k=>
    simp only [progP] at hx;have hh:=ag9.out;rw [← hx] at hh;simp only [Option.some.injEq,Prod.mk.injEq] at hh;obtain ⟨rfl,rfl,rfl,rfl,rfl⟩:=hh;have hgw:=HGW.out;have hfr:=HFAR.out;have hge:=HGE.out;exact ar9 rfl rfl rfl R6 (HO.out.put (s:=g) (fun k hk=>by rcases hk with h_|h_<;>omega) hgw.1 hfr _ _ _ _ _) (RT (bQ HBW.out s9.out) hge _ _ _ _ _)
   |cons t l'=>
    have k2:wr.cell? ⟨g,0,none⟩=some (.slice A' (l'.length+1) c'):=k1;have d1:decide (((l'.length+1:Nat):Int)>0)=true:=decide_eq_true (by omega);have d2:decide (0<l'.length+1)=true:=decide_eq_true (by omega);have d3:decide ((0:Int)<(l'.length:Int)+1)=true:=decide_eq_true (by omega);have hkd: ∀ x∈(t::l'),x.f0≠0:=fun x hx=>HK.out.1 x (HI.out.1.subset hx)
    have hll:(t::l').length≤ts.length:=HI.out.1.length_le;have oS:=HK.out.2;have hGW:GL W0:=HR.out.gl HG.out;have hps:=HI.out.2.2.2;have HD:=ao4 (blockW (a0.size:Int) (stmtsP (a0.size:Int) ts.length) 0)
     (fun w r hP hr=>al0 hGW ts.length w r 0 hP (fun x hx=>hkd x (List.mem_of_mem_tail (hr.subset hx))) (by have:=hr.length_le;have h_:(t::l').tail.length=l'.length:=rfl;have am0:(t::l').length=l'.length+1:=rfl;omega) (by have:=hr.length_le;have h_:(t::l').tail.length=l'.length:=rfl;have am0:(t::l').length=l'.length+1:=rfl;omega) (by decide) (by decide))
     HR.out.pg hkd hGW ⟨by have:=hps.vs;omega,by have:=hps.ls;omega,by have:=hps.fs;omega⟩ (by have:=HR.out.pg.ps.lt;omega)
    obtain ⟨od,hod⟩: ∃ od,declW (a0.size:Int) (blockW (a0.size:Int) (stmtsP (a0.size:Int) ts.length) 0) (t::l') p=od:=⟨_,rfl⟩;rw [hod] at HD;have HDC:=aC.mk HD;have HOD:=aC.mk hod;clear k1 hkd hll oS hGW hps HD hod;go_wp2_with fail
    refine HDC.out.mono ?_
    cases od with
    |bad xa xb=>
     rintro E w4 ⟨rfl,p8,mX⟩
     obtain ⟨RW,hbw⟩:=HR.out.at_ p8;have hx:=HE.out;cases gk with
     |zero=>exact absurd HI.out.2.1 (by omega)
     |succ k=>
     simp only [progP] at hx;rw [HOD.out] at hx;have hh:=ag9.out;rw [← hx] at hh;simp only [Option.some.injEq,Prod.mk.injEq] at hh;obtain ⟨rfl,rfl,rfl,rfl,rfl⟩:=hh;clear HDC;go_wp2_with fail
     exact aqR rfl rfl rfl xa xb RW hbw HGE.out
    |ok p' r'=>
     rintro E w4 ⟨rfl,j,v,u1,u2,u3,hPg⟩
     have av3:=aC.mk (HR.out.next hPg);have hx:=HE.out;cases gk with
     |zero=>exact absurd HI.out.2.1 (by omega)
     |succ k=>
     simp only [progP] at hx;rw [HOD.out] at hx;have HX:=aC.mk hx;obtain ⟨hsm,hsf⟩:=atZ (fun l A r hb=>DW (fun d l A r bR=>E5 _ bR) hb) (fun l A r hl hb=>ahY (fun d l A r hl h=>(aaW _ d l A r hl h).1) hl hb) HI.out.2.2.2 HOD.out;have HSM:=aC.mk hsm;have HSF:=aC.mk hsf;clear HDC hPg hx hsm hsf;go_wp2_with fail
     go_roundg k
     case rel=>
      have h1:=HI.out;have h2:=HSF.out.length_le;have h3:(t::l').length=l'.length+1:=rfl;exact ⟨_,r',p',u1,u2,u3,av3,HX,⟨(HSF.out.trans (List.suffix_cons t l')).trans h1.1,by omega,by omega,HSM.out⟩⟩
     case measure=>omega
 ·have q:(er !=0)=true:=bne_iff_ne.mpr hq;have rr:=aD R2.out.hr 0;go_upto_region 3 with fail
  have f0:=aD R2.out.hn 0;have f1:=aD R2.out.hr 0;have o0:=aD R2.out.ho 0;have o1:=aD R2.out.ho 1;have o2:=aD R2.out.ho 2;have y0:=aT R2.out.ho 0;have y1:=aT R2.out.ho 1;have y2:=aT R2.out.ho 2;have nK:=aT R2.out.hn 0;have jM:=aT R2.out.hr 0;obtain ⟨hno,hro,hrn⟩:=R2.out.hne;refine Code.wp_mono az0 ?_
  refine mK (n:=6) (S:=fun w'=>w'.cell? ⟨n,0,none⟩=some (.int .i64 at_)∧w'.cell? ⟨r,0,none⟩=some (.int .i64 er)) (ds:=[5]) #[false,false,false,false,false,false] (by kernel_rfl) rfl rfl ⟨f0,f1⟩ (fun hHeld=>?_);refine bE (i:=0) (N:=some 15) (v:=?_) (a':=?_) #[true,false,false,false,false,false] rfl rfl (by kernel_rfl) (fun _ _ _ h=>h) (Or.inl ⟨by rfl,?_⟩) ?_ ?_
  rotate_left;·intro w';go_simp;with_reducible rfl
  rotate_left;·simp only [Act.put,q1_,q2_,q3_,aG,aH];rfl
  refine eC (i:=1) (N:=some 16) (v:=?_) (a':=?_) #[true,true,false,false,false,false] rfl rfl (by kernel_rfl) (fun _ _ _ h=>h) (Or.inl ⟨by rfl,?_⟩) hHeld ?_ ?_
  rotate_left
  ·rintro w' ⟨s0,s1⟩
   go_simp;with_reducible rfl
  rotate_left;·simp only [Act.put,q1_,q2_,q3_,aG,aH];rfl
  refine eC (i:=2) (N:=some 17) (v:=?_) (a':=?_) #[true,true,true,false,false,false] rfl rfl (by kernel_rfl) (fun _ _ _ h=>h) (Or.inl ⟨by rfl,?_⟩) hHeld ?_ ?_
  rotate_left
  ·rintro w' ⟨s0,s1⟩
   go_simp;with_reducible rfl
  rotate_left;·simp only [Act.put,q1_,q2_,q3_,aG,aH];rfl
  refine one_ (i:=3) (N:=none) #[true,true,true,true,false,false] rfl rfl (by kernel_rfl) (by decide) (fun K hK=>?_);refine lV (w1:=?_) (by rfl) rfl ?_ ?_
  rotate_left;·go_simp;rfl
  refine hK.out _ _ ⟨EY hno f0,EY hro f1⟩ (fun hHeld=>?_);clear hK K;refine one_ (i:=4) (N:=none) #[true,true,true,true,true,false] rfl rfl (by kernel_rfl) (by decide) (fun K hK=>?_);refine lV (w1:=?_) (by rfl) rfl ?_ ?_
  rotate_left;·go_simp;rfl
  refine hK.out _ _ ⟨asO hno f0,ZI hro hrn f1⟩ (fun hHeld=>?_);clear hK K;refine nZ (i:=5) (N:=none) #[true,true,true,true,true,true] rfl rfl (by kernel_rfl) (by decide) (fun K hK=>?_);refine lV (w1:=?_) (by rfl) rfl ?_ ?_
  rotate_left;·go_simp;rfl
  refine hK.out _ _ ?_
  clear hK K;refine mP (by kernel_rfl) ?_
  have hh:=H.out;rw [if_pos hq] at hh;simp only [Option.some.injEq,Prod.mk.injEq] at hh;obtain ⟨rfl,rfl,rfl,rfl,rfl⟩:=hh;clear hHeld f0 f1 o0 o1 o2 y0 y1 y2 nK jM;simp only [noPanic];go_wp2
  have R3:=R2.out.put (.slice none 0 0) (.slice none 0 0) (.slice none 0 0) at_ er;exact ay5 rfl rfl rfl (R3.below (zP (Below.refl _ _))) (zP (RT cR.out HGE.out _ _ _ _ _))
end Go.Proofs.YtkmafndljelopaaDoor.Q
