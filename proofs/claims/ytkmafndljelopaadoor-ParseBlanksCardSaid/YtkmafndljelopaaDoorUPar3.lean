/- Par3: put together by wip/merge.py. -/
import Derived.Test.YtkmafndljelopaaDoorUPar2
import Derived.Test.YtkmafndljelopaaDoorULexTok
import Derived.Deep.RegionHeld
namespace Go.Proofs.YtkmafndljelopaaDoor.Q
open Go.RowKit Go.Proofs.YtkmafndljelopaaDoorW.PrintWords Go.Proofs.YtkmafndljelopaaDoorW.PrintLast Go.Proofs.YtkmafndljelopaaDoorW.PrintMore Go.Proofs.YtkmafndljelopaaDoor.Lx
set_option linter.unusedVariables false
set_option linter.unusedSimpArgs false
def progP (e:Int) (N:Nat):Nat→List Tok6→P6→Out P6
 |0,_,_=>.bad 0 0
 |n+1,l,p=>match l with
  |[]=>.ok p []
  |t::r=>match declW e (blockW e (stmtsP e N) 0) (t::r) p with
   | .bad a b=>.bad a b
   | .ok p' r'=>progP e N n r' p'
def parse_Parse.f (a0:ByteArray):Option (List De6×List De6×List Fn6×Int×Int):=
 match lex_Tokens.f a0 with
 |none=>none
 |some (ts,at_,er)=>if er≠0 then some ([],[],[],at_,er) else
  match progP (a0.size:Int) ts.length (ts.length+1) ts ⟨[],[],[]⟩ with
  | .ok p _=>some (p.vs,p.ls,p.fs,0,0)
  | .bad a b=>some ([],[],[],a,b)
theorem Bnd.nil:Bnd []:= .mk (by simp) (by simp) (by simp)
theorem blockW_bnd {e:Int} {ss:Int→List Tok6→Out (List St6)} (h: ∀ d l A r,l.length≤1000000→ss d l= .ok A r→Bnd A) {deep:Int} {l:List Tok6} {A:List St6} {r:List Tok6} (hl:l.length≤1000000) (hb:blockW e ss deep l= .ok A r):Bnd A:=by
 unfold blockW at hb
 split at hb
 ·cases hb
 ·split at hb
  ·cases hb
  ·exact h _ _ _ _ (by rw [List.length_tail];omega) hb
theorem stmtW_bnd {e:Int} {bl:List Tok6→Out (List St6)} (hs: ∀ l A r,bl l= .ok A r→r<:+l) (h: ∀ l A r,l.length≤1000000→bl l= .ok A r→Bnd A) {l:List Tok6} {s:St6} {r:List Tok6} (hl:l.length≤1000000) (hb:stmtW e bl l= .ok s r):Bnd s.f3∧Bnd s.f4:=by
 have ht: ∀ (l:List Tok6),l.length≤1000000→l.tail.length≤1000000:=fun l h=>by rw [List.length_tail];omega
 unfold stmtW at hb
 split at hb
 ·cases hb
 split at hb
 ·cases hb
 split at hb
 ·split at hb
  ·injection hb with h1 h2
   subst h1;exact ⟨.nil,.nil⟩
  ·cases hb
 ·split at hb
  ·cases hb
  ·rename_i A r1 h1
   have hA:=h _ _ _ (ht _ hl) h1;have hr1:r1.length≤1000000:=Nat.le_trans (hs _ _ _ h1).length_le (ht _ hl);split at hb
   ·injection hb with h3 h4
    subst h3;exact ⟨hA,.nil⟩
   ·split at hb
    ·split at hb
     ·cases hb
     ·rename_i B r2 h2
      injection hb with h3 h4
      subst h3;exact ⟨hA,h _ _ _ (ht _ hr1) h2⟩
    ·injection hb with h3 h4
     subst h3;exact ⟨hA,.nil⟩
theorem stmtsP_bnd {e:Int} : ∀ (n:Nat) (deep:Int) (l:List Tok6) (A:List St6) (r:List Tok6),l.length≤1000000→stmtsP e n deep l= .ok A r→Bnd A∧A.length+r.length≤l.length
 |0,_,_,_,_,_,h=>by simp [stmtsP] at h
 |n+1,deep,l,A,r,hl,h=>by
  have ih:=stmtsP_bnd (e:=e) n;simp only [stmtsP] at h;split at h
  ·injection h with h1 h2
   subst h1 h2;exact ⟨.nil,by rw [List.length_tail];simp only [List.length_nil];omega⟩
  ·cases h1:stmtW e (blockW e (stmtsP e n) deep) l with
   |bad a b=>rw [h1] at h;cases h
   |ok s r1=>
    rw [h1] at h;simp only [thenS] at h;split at h
    ·cases h
    ·rename_i ss r2 h2
     injection h with h3 h4
     subst h3 h4;have hsf:=stmtW_suf (fun l A r hb=>blockW_suf (fun d l A r hb2=>stmtsP_suf n hb2) hb) h1;have hne:=stmtW_ne h1;have hlen:=hsf.length_le;rw [List.length_tail] at hlen;have hb1:=stmtW_bnd (fun l A r hb=>blockW_suf (fun d l A r hb2=>stmtsP_suf n hb2) hb) (fun l A r hl hb=>blockW_bnd (fun d l A r hl h=>(ih d l A r hl h).1) hl hb) hl h1;obtain ⟨hb2,hle⟩:=ih deep r1 ss r2 (by omega) h2;cases hb2 with
     |mk h5 h6 h7=>
      refine ⟨.mk (by simp only [List.length_cons];omega) (fun x hx=>?_) (fun x hx=>?_),by simp only [List.length_cons];omega⟩
      ·rcases List.mem_cons.1 hx with rfl|hx
       ·exact hb1.1
       ·exact h6 x hx
      ·rcases List.mem_cons.1 hx with rfl|hx
       ·exact hb1.2
       ·exact h7 x hx
structure PSm (p:P6) (m:Nat):Prop where
 vs:p.vs.length+m≤1000000
 ls:p.ls.length+m≤1000000
 fs:p.fs.length+m≤1000000
 bnd: ∀ x∈p.fs,Bnd x.f2
theorem nameW_some {α:Type} {e:Int} {l:List Tok6} {k:ByteArray→List Tok6→Out α} {p:α} {r:List Tok6} (h:nameW e l k= .ok p r):k (nx l e).f2 l.tail= .ok p r:=by
 unfold nameW at h
 split at h
 ·exact h
 ·cases h
theorem declW_sm {e:Int} {bl:List Tok6→Out (List St6)} (hs: ∀ l A r,bl l= .ok A r→r<:+l) (h: ∀ l A r,l.length≤1000000→bl l= .ok A r→Bnd A) {t:Tok6} {l:List Tok6} {p p':P6} {r:List Tok6} (hp:PSm p (t::l).length) (hb:declW e bl (t::l) p= .ok p' r):PSm p' r.length∧r<:+l:=by
 obtain ⟨h1,h2,h3,h4⟩:=hp;simp only [List.length_cons] at h1 h2 h3;unfold declW at hb
 split at hb
 ·have hb:=nameW_some hb;injection hb with h5 h6
  subst h5 h6;refine ⟨⟨?_,?_,?_,h4⟩,List.tail_suffix _⟩<;>simp only [List.length_append,List.length_cons,List.length_nil,List.tail_cons,List.length_tail]<;>omega
 ·split at hb
  ·have hb:=nameW_some hb;injection hb with h5 h6
   subst h5 h6;refine ⟨⟨?_,?_,?_,h4⟩,List.tail_suffix _⟩<;>simp only [List.length_append,List.length_cons,List.length_nil,List.tail_cons,List.length_tail]<;>omega
  ·split at hb
   ·have hb:=nameW_some hb;split at hb
    ·cases hb
    ·rename_i A r2 h5
     injection hb with h6 h7
     subst h6 h7;have hsf:=(hs _ _ _ h5).trans (List.tail_suffix _);have hle:=hsf.length_le;simp only [List.tail_cons] at hle;refine ⟨⟨?_,?_,?_,?_⟩,hsf⟩
     ·show p.vs.length+_≤_
      omega
     ·show p.ls.length+_≤_
      omega
     ·simp only [List.length_append,List.length_cons,List.length_nil];omega
     ·intro x hx;rcases List.mem_append.1 hx with hx|hx
      ·exact h4 x hx
      ·obtain rfl:=List.mem_singleton.1 hx;refine h _ _ _ ?_ h5;simp only [List.tail_cons,List.length_tail];omega
   ·cases hb
theorem tokScan_kinds (s:ByteArray): ∀ (l:List UInt8) (i e:Nat) (acc:List Tok),(∀ t∈acc,t.f0≠0)→(∀ t∈(tokScan s l i e acc).1,t.f0≠0)∧(tokScan s l i e acc).1.length≤acc.length+l.length
 |[],i,e,acc,h=>⟨h,by simp [tokScan]⟩
 |c::r,i,e,acc,h=>by
  have app: ∀ (t:Tok),t.f0≠0→ ∀ x∈acc++ [t],x.f0≠0:=fun t ht x hx=>by
   rcases List.mem_append.1 hx with hx|hx
   ·exact h x hx
   ·rw [List.mem_singleton.1 hx];exact ht
  simp only [tokScan];split
  ·have:=tokScan_kinds s r (i+1) e acc h;exact ⟨this.1,by simp only [List.length_cons];omega⟩
  ·split
   ·have:=tokScan_kinds s r (i+1) e _ (app ⟨2,i,⟨#[]⟩⟩ (show (2:Int)≠0 by decide));refine ⟨this.1,?_⟩;have:=this.2;simp only [List.length_append,List.length_cons,List.length_nil] at this ⊢;omega
   ·split
    ·have:=tokScan_kinds s r (i+1) e _ (app ⟨3,i,⟨#[]⟩⟩ (show (3:Int)≠0 by decide));refine ⟨this.1,?_⟩;have:=this.2;simp only [List.length_append,List.length_cons,List.length_nil] at this ⊢;omega
    ·split
     ·have:=tokScan_kinds s r (i+1) (i+sgnRow (c::r)) _ (app ⟨1,i,s.extract i (i+sgnRow (c::r))⟩ (show (1:Int)≠0 by decide));refine ⟨this.1,?_⟩;have:=this.2;simp only [List.length_append,List.length_cons,List.length_nil] at this ⊢;omega
     ·exact ⟨by simp,by simp⟩
theorem tokens_kinds {s:ByteArray} {ts:List Tok6} {a e:Int} (h:lex_Tokens.f s=some (ts,a,e)):(∀ t∈ts,t.f0≠0)∧ts.length≤2000:=by
 unfold lex_Tokens.f at h
 split at h
 ·injection h with h
  injection h with h1 h2
  subst h1;exact ⟨by simp,by simp⟩
 ·rename_i hs
  injection h with h
  have h2:=tokScan_kinds s s.data.toList 0 0 [] (by simp);rw [h] at h2;refine ⟨h2.1,?_⟩;have h3:=h2.2;have:s.data.toList.length=s.size:=by rw [Array.length_toList];rfl
  simp only [List.length_nil] at h3;omega
theorem cell_far3 {W:World} {b o j:Nat} {v u0 u1 u2:Value} (h:b≠o) (f:W.cell? ⟨b,j,none⟩=some v):(((W.setCell ⟨o,0,none⟩ u0).setCell ⟨o,1,none⟩ u1).setCell ⟨o,2,none⟩ u2).cell? ⟨b,j,none⟩=some v:=by
 rw [World.cell?_setCell_far _ _ _ _ h.symm,World.cell?_setCell_far _ _ _ _ h.symm,World.cell?_setCell_far _ _ _ _ h.symm];exact f
theorem cell_far4 {W:World} {b o n j:Nat} {v u0 u1 u2 u3:Value} (h:b≠o) (h2:b≠n) (f:W.cell? ⟨b,j,none⟩=some v):((((W.setCell ⟨o,0,none⟩ u0).setCell ⟨o,1,none⟩ u1).setCell ⟨o,2,none⟩ u2).setCell ⟨n,0,none⟩ u3).cell? ⟨b,j,none⟩=some v:=by
 rw [World.cell?_setCell_far _ _ _ _ h2.symm];exact cell_far3 h f
theorem cell_same4 {W:World} {o n:Nat} {v u0 u1 u2:Value} (h:n≠o) (f:W.cell? ⟨n,0,none⟩=some v):((((W.setCell ⟨o,0,none⟩ u0).setCell ⟨o,1,none⟩ u1).setCell ⟨o,2,none⟩ u2).setCell ⟨n,0,none⟩ v).cell? ⟨n,0,none⟩=some v:=
 World.cell?_setCell_same _ _ _ (cell_far3 h f)
structure Re (w:World) (o n r:Nat) (v1 v2 v3:Value) (a e:Int):Prop where
 ho:w.heap[o]? =some (.cells #[v1,v2,v3] 30 (0,0))
 hn:w.heap[n]? =some (.cells #[.int .i64 a] 3 (0,0))
 hr:w.heap[r]? =some (.cells #[.int .i64 e] 36 (0,0))
 hne:n≠o∧r≠o∧r≠n
theorem Re.below {w w':World} {o n r:Nat} {v1 v2 v3:Value} {a e:Int} (h:Re w o n r v1 v2 v3 a e) (hb:Below w.heap.size w w'):Re w' o n r v1 v2 v3 a e:=⟨blk_below h.ho hb,blk_below h.hn hb,blk_below h.hr hb,h.hne⟩
theorem Re.alloc {w:World} {o n r:Nat} {v1 v2 v3:Value} {a e:Int} (h:Re w o n r v1 v2 v3 a e) (x:Obj):Re (w.alloc x) o n r v1 v2 v3 a e:=h.below (below_alloc (Below.refl _ _) x)
def putR (w:World) (o n r:Nat) (v1 v2 v3:Value) (a e:Int):World:=((((w.setCell ⟨o,0,none⟩ v1).setCell ⟨o,1,none⟩ v2).setCell ⟨o,2,none⟩ v3).setCell ⟨n,0,none⟩ (.int .i64 a)).setCell ⟨r,0,none⟩ (.int .i64 e)
theorem Re.put {w:World} {o n r:Nat} {u1 u2 u3:Value} {a0 e0:Int} (h:Re w o n r u1 u2 u3 a0 e0) (v1 v2 v3:Value) (a e:Int):Re (putR w o n r v1 v2 v3 a e) o n r v1 v2 v3 a e:=by
 have ho:=blk_far (p:=⟨r,0,none⟩) (blk_far (p:=⟨n,0,none⟩) (blk_put (blk_put (blk_put h.ho 0 v1 rfl) 1 v2 rfl) 2 v3 rfl) h.hne.1.symm (.int .i64 a)) h.hne.2.1.symm (.int .i64 e);have hn:=blk_far (p:=⟨r,0,none⟩) (blk_put (blk_far (p:=⟨o,2,none⟩) (blk_far (p:=⟨o,1,none⟩) (blk_far (p:=⟨o,0,none⟩) h.hn h.hne.1 v1) h.hne.1 v2) h.hne.1 v3) 0 (.int .i64 a) rfl) h.hne.2.2.symm (.int .i64 e);have hr:=blk_put (blk_far (p:=⟨n,0,none⟩) (blk_far (p:=⟨o,2,none⟩) (blk_far (p:=⟨o,1,none⟩) (blk_far (p:=⟨o,0,none⟩) h.hr h.hne.2.1 v1) h.hne.2.1 v2) h.hne.2.1 v3) h.hne.2.2 (.int .i64 a)) 0 (.int .i64 e) rfl;exact ⟨ho,hn,hr,h.hne⟩
theorem putR_below {b:Nat} {W w:World} {o n r:Nat} (h:Below b W w) (hb:b≤o∧b≤n∧b≤r) (v1 v2 v3:Value) (a e:Int):Below b W (putR w o n r v1 v2 v3 a e):=
 ((((h.setCell hb.1 _).setCell hb.1 _).setCell hb.1 _).setCell hb.2.1 _).setCell hb.2.2 _
def caughtP (w:World) (o n r:Nat) (a e:Int):World:=
 (putR (w.alloc (.cells #[.int .i64 a,.int .i64 e] 65)) o n r (.slice none 0 0) (.slice none 0 0) (.slice none 0 0) a e).drew
set_option maxRecDepth 20000 in
set_option maxHeartbeats 800000 in
theorem catch_wrong {o n r:Nat} {w:World} {v1 v2 v3:Value} {a0 e0:Int} (a e:Int) (h:Re w o n r v1 v2 v3 a0 e0):
  CallsD Tryd.prog 32 #[.pointer (some ⟨o,0,none⟩),.pointer (some ⟨n,0,none⟩),.pointer (some ⟨r,0,none⟩)] (.panicking (wrongP a e)) w fun E u' w'=>
   E= .returned (.tuple #[])∧u'= .panicking [{ v:=.iface 65 (.agg #[.int .i64 a,.int .i64 e]),recovered:=true }]∧caughtP w o n r a e=w':=by
 have hta: ∀ (W:World),(Instr.typeAssert (.iface 65 (.agg #[.int .i64 a,.int .i64 e])) 20 65 true).run Tryd.prog W= .ok (.tuple #[.agg #[.int .i64 a,.int .i64 e],.bool true]) W:=fun W=>by rfl
 have hu30:=Tryd.underlying30;have hu65:=Tryd.underlying65;have hbo:w.heap.size≠o:=by have:=blk_lt h.ho;omega
 have hbn:w.heap.size≠n:=by have:=blk_lt h.hn;omega
 have hbr:w.heap.size≠r:=by have:=blk_lt h.hr;omega
 have A2:=Aside0.mk (h.alloc (.cells #[.int .i64 a,.int .i64 e] 65));have B1:=Aside0.mk (blk_new w (.cells #[.int .i64 a,.int .i64 e] 65));refine callsD_of_wpS Tryd.func32 rfl fun c₀ cs hu=>?_
 apply wpS_seq;apply wpS_region;simp [wpOpsS,go_sem,recoverD,hu,Tryd.ntmps32,Exit.thenS,wrongP,hta,hu65]
 simp only [Array.replicate_succ,Array.replicate_zero,List.push_toArray,q1_,q2_,q3_,List.append_toArray,List.cons_append,List.nil_append,Array.replicate_zero];refine wpS_of_wp ?_
 go_upto_region 2 with fail
 have HCW:Aside0 (caughtP w o n r a e=(putR (w.alloc (.cells #[.int .i64 a,.int .i64 e] 65)) o n r (.slice none 0 0) (.slice none 0 0) (.slice none 0 0) a e).drew):=⟨rfl⟩;generalize w.alloc (.cells #[.int .i64 a,.int .i64 e] 65)=X at A2 B1 HCW ⊢;generalize w.heap.size=b at *;have f0:=blk_cell B1.out 0;have f1:=blk_cell B1.out 1;have o0:=blk_cell A2.out.ho 0;have o1:=blk_cell A2.out.ho 1;have o2:=blk_cell A2.out.ho 2;have y0:=blk_frozen A2.out.ho 0;have y1:=blk_frozen A2.out.ho 1;have y2:=blk_frozen A2.out.ho 2;have hn0:=blk_cell A2.out.hn 0;have hn1:=blk_frozen A2.out.hn 0;have hr0:=blk_cell A2.out.hr 0;have hr1:=blk_frozen A2.out.hr 0;obtain ⟨hno,hro,hrn⟩:=h.hne;clear h
 refine start_ (n:=8) (S:=fun w'=>w'.cell? ⟨b,0,none⟩=some (.int .i64 a)∧w'.cell? ⟨b,1,none⟩=some (.int .i64 e)) (ds:=[7]) #[false,false,false,false,false,false,false,false] (by kernel_rfl) rfl rfl ⟨f0,f1⟩ (fun hHeld=>?_);refine pure_ (i:=0) (N:=some 11) (v:=?_) (a':=?_) #[true,false,false,false,false,false,false,false] rfl rfl (by kernel_rfl) (fun _ _ _ h=>h) (Or.inl ⟨by rfl,?_⟩) ?_ ?_
 rotate_left;·intro w';go_simp;with_reducible rfl
 rotate_left;·simp only [Act.put,q1_,q2_,q3_,i64_w,i32_w];rfl
 refine pure_ (i:=1) (N:=some 12) (v:=?_) (a':=?_) #[true,true,false,false,false,false,false,false] rfl rfl (by kernel_rfl) (fun _ _ _ h=>h) (Or.inl ⟨by rfl,?_⟩) ?_ ?_
 rotate_left;·intro w';go_simp;with_reducible rfl
 rotate_left;·simp only [Act.put,q1_,q2_,q3_,i64_w,i32_w];rfl
 refine pure_ (i:=3) (N:=some 14) (v:=?_) (a':=?_) #[true,true,false,true,false,false,false,false] rfl rfl (by kernel_rfl) (fun _ _ _ h=>h) (Or.inl ⟨by rfl,?_⟩) ?_ ?_
 rotate_left;·intro w';go_simp;with_reducible rfl
 rotate_left;·simp only [Act.put,q1_,q2_,q3_,i64_w,i32_w];rfl
 refine take_ (i:=2) (N:=some 13) (v:=?_) (a':=?_) #[true,true,true,true,false,false,false,false] rfl rfl (by kernel_rfl) (fun _ _ _ h=>h) (Or.inl ⟨by rfl,?_⟩) hHeld ?_ ?_
 rotate_left
 ·rintro w' ⟨s0,s1⟩
  go_simp;with_reducible rfl
 rotate_left;·simp only [Act.put,q1_,q2_,q3_,i64_w,i32_w];rfl
 refine take_ (i:=4) (N:=some 15) (v:=?_) (a':=?_) #[true,true,true,true,true,false,false,false] rfl rfl (by kernel_rfl) (fun _ _ _ h=>h) (Or.inl ⟨by rfl,?_⟩) hHeld ?_ ?_
 rotate_left
 ·rintro w' ⟨s0,s1⟩
  go_simp;with_reducible rfl
 rotate_left;·simp only [Act.put,q1_,q2_,q3_,i64_w,i32_w];rfl
 refine one_ (i:=5) (N:=none) #[true,true,true,true,true,true,false,false] rfl rfl (by kernel_rfl) (by decide) (fun K hK=>?_);refine skip_ (w1:=?_) (by rfl) rfl ?_ ?_
 rotate_left;·go_simp;rfl
 refine hK.out _ _ ⟨cell_far3 hbo f0,cell_far3 hbo f1⟩ (fun hHeld=>?_);clear hK K;refine one_ (i:=6) (N:=none) #[true,true,true,true,true,true,true,false] rfl rfl (by kernel_rfl) (by decide) (fun K hK=>?_);refine skip_ (w1:=?_) (by rfl) rfl ?_ ?_
 rotate_left;·go_simp;rfl
 refine hK.out _ _ ⟨cell_far4 hbo hbn f0,cell_far4 hbo hbn f1⟩ (fun hHeld=>?_);clear hK K;refine last_ (i:=7) (N:=none) #[true,true,true,true,true,true,true,true] rfl rfl (by kernel_rfl) (by decide) (fun K hK=>?_);refine skip_ (w1:=?_) (by rfl) rfl ?_ ?_
 rotate_left;·go_simp;rfl
 refine hK.out _ _ ?_
 clear hK K;refine done_ (by kernel_rfl) ?_
 clear hHeld f0 f1 o0 o1 o2 y0 y1 y2 hn0 hn1 hr0 hr1;go_wp2
 cases c₀
 have HC:=HCW.out;simp [bodyPostS,results,Tryd.results32,go_sem]
 exact HC
set_option maxRecDepth 20000 in
set_option maxHeartbeats 400000 in
theorem catch_none (o n r:Nat) (w:World):
  CallsD Tryd.prog 32 #[.pointer (some ⟨o,0,none⟩),.pointer (some ⟨n,0,none⟩),.pointer (some ⟨r,0,none⟩)] .returning w fun E u' w'=>
   E= .returned (.tuple #[])∧u'= .returning∧w.alloc (.cells #[.int .i64 0,.int .i64 0] 65)=w':=by
 have hta: ∀ (W:World),(Instr.typeAssert .nilIface 20 65 true).run Tryd.prog W= .ok (.tuple #[.agg #[.int .i64 0,.int .i64 0],.bool false]) W:=fun W=>by rfl
 have hu65:=Tryd.underlying65;refine callsD_of_wpS Tryd.func32 rfl fun c₀ cs hu=>?_
 apply wpS_seq;apply wpS_region;simp [wpOpsS,go_sem,recoverD,hu,Tryd.ntmps32,Exit.thenS,hta,hu65]
 simp only [Array.replicate_succ,Array.replicate_zero,List.push_toArray,q1_,q2_,q3_,List.append_toArray,List.cons_append,List.nil_append,Array.replicate_zero];refine wpS_of_wp ?_
 go_wp2
 cases c₀
 simp_all [bodyPostS,results,Tryd.results32]
theorem results_parse (T:Array Value) (o n r:Nat) (h2:T[2]?.getD undef= .pointer (some ⟨o,0,none⟩)) (h3:T[3]?.getD undef= .pointer (some ⟨n,0,none⟩)) (h4:T[4]?.getD undef= .pointer (some ⟨r,0,none⟩)) {W:World} {v1 v2 v3:Value} {a e:Int} (h:Re W o n r v1 v2 v3 a e):
  (results Tryd.f17 T).run Tryd.prog W= .ok (.tuple #[.agg #[v1,v2,v3],.int .i64 a,.int .i64 e]) W:=by
 have hu30:=Tryd.underlying30;have g0:=blk_cell h.ho 0;have g1:=blk_cell h.ho 1;have g2:=blk_cell h.ho 2;have g3:=blk_cell h.hn 0;have g4:=blk_cell h.hr 0;simp [results,Tryd.results17,go_sem,h2,h3,h4,hu30,g0,g1,g2,g3,g4]
def EndP (w:World) (vs ls:List De6) (fs:List Fn6) (a e:Int) (E:Ending) (w':World):Prop:=
 ∃ v0_ v1_ v2_:Value,E= .returned (.tuple #[.agg #[v0_,v1_,v2_],.int .i64 a,.int .i64 e])∧Kd.V k59 59 w' w.heap.size (fun k_=>w.heap.size≤k_) v0_ vs∧Kd.V k59 59 w' w.heap.size (fun k_=>w.heap.size≤k_) v1_ ls∧Kd.V k46 46 w' w.heap.size (fun k_=>w.heap.size≤k_) v2_ fs∧Below w.heap.size w w'
abbrev defP (o n r:Nat):List Deferred:= [{ target:=Target.fn (Fn.func 32) #[.pointer (some ⟨o,0,none⟩),.pointer (some ⟨n,0,none⟩),.pointer (some ⟨r,0,none⟩)],args:= #[] }]
theorem door_bad {w W:World} {T:Array Value} {o n r:Nat} (h2:T[2]?.getD undef= .pointer (some ⟨o,0,none⟩)) (h3:T[3]?.getD undef= .pointer (some ⟨n,0,none⟩)) (h4:T[4]?.getD undef= .pointer (some ⟨r,0,none⟩)) {v1 v2 v3:Value} {a0 e0:Int} (a e:Int)
  (h:Re W o n r v1 v2 v3 a0 e0) (hb:Below w.heap.size w W) (hg:w.heap.size≤o∧w.heap.size≤n∧w.heap.size≤r):
  bodyPostD Tryd.prog Tryd.f17 (EndP w [] [] [] a e) (Exit.panic (wrongP a e)) { tmps:=T,defers:=defP o n r } W:=by
 refine leaves_cons (f:=32) (args:=#[.pointer (some ⟨o,0,none⟩),.pointer (some ⟨n,0,none⟩),.pointer (some ⟨r,0,none⟩)]) (by simp) (by simp [go_sem]) ?_
 refine (catch_wrong a e h).mono ?_
 rintro E u' w'' ⟨rfl,rfl,rfl⟩
 have hR:Re (caughtP W o n r a e) o n r (.slice none 0 0) (.slice none 0 0) (.slice none 0 0) a e:=by
  unfold caughtP
  exact Re.below ((h.alloc _).put _ _ _ a e) (below_drew (Below.refl _ _))
 refine ⟨_,results_parse T o n r h2 h3 h4 hR,?_⟩;have hB:Below w.heap.size w (caughtP W o n r a e):=by
  unfold caughtP
  exact below_drew (putR_below (below_alloc hb _) hg _ _ _ a e)
 exact ⟨_,_,_,rfl,Kd.V_nil _ _ _ _ _,Kd.V_nil _ _ _ _ _,Kd.V_nil _ _ _ _ _,hB⟩
theorem door_good {w W:World} {T:Array Value} {o n r:Nat} (h2:T[2]?.getD undef= .pointer (some ⟨o,0,none⟩)) (h3:T[3]?.getD undef= .pointer (some ⟨n,0,none⟩)) (h4:T[4]?.getD undef= .pointer (some ⟨r,0,none⟩)) {v1 v2 v3:Value} {a e:Int} {vs ls:List De6} {fs:List Fn6}
  (h:Re W o n r v1 v2 v3 a e) (hv:OwnV W (fun k=>w.heap.size≤k) vs ls fs (.agg #[v1,v2,v3])) (hb:Below w.heap.size w W):
  bodyPostD Tryd.prog Tryd.f17 (EndP w vs ls fs a e) Exit.ret { tmps:=T,defers:=defP o n r } W:=by
 refine leaves_cons (f:=32) (args:=#[.pointer (some ⟨o,0,none⟩),.pointer (some ⟨n,0,none⟩),.pointer (some ⟨r,0,none⟩)]) (by simp) (by simp [go_sem]) ?_
 refine (catch_none o n r W).mono ?_
 rintro E u' w'' ⟨rfl,rfl,rfl⟩
 refine ⟨_,results_parse T o n r h2 h3 h4 (h.alloc _),?_⟩;obtain ⟨B1,d1,B2,d2,B3,d3,he,⟨l1,l2,l3⟩,f1,f2,f3⟩:=hv.out;injection he with he
 injection he with he
 injection he with he1 he
 injection he with he2 he
 injection he with he3 he
 subst he1 he2 he3;exact ⟨_,_,_,rfl,Kd.V_alloc (Kd.V_mk l1 f1) _,Kd.V_alloc (Kd.V_mk l2 f2) _,Kd.V_alloc (Kd.V_mk l3 f3) _,below_alloc hb _⟩
structure Rn (w W0 wr:World) (o n r g base:Nat) (e a0 e0:Int) (l:List Tok6) (p:P6) (v1 v2 v3:Value):Prop where
 pg:Pg W0 wr g o base l e p v1 v2 v3
 re:Re W0 o n r v1 v2 v3 a0 e0
 bel:Below w.heap.size w W0
 ge:w.heap.size≤o∧w.heap.size≤n∧w.heap.size≤r
 bas:base=g+1
theorem Rn.at_ {w W0 wr w':World} {o n r g base:Nat} {e a0 e0:Int} {l:List Tok6} {p:P6} {v1 v2 v3:Value} (h:Rn w W0 wr o n r g base e a0 e0 l p v1 v2 v3) (hb:Below W0.heap.size W0 w'):Re w' o n r v1 v2 v3 a0 e0∧Below w.heap.size w w':=
 ⟨h.re.below hb,below_step h.bel hb⟩
theorem Rn.next {w W0 wr w':World} {o n r g base j:Nat} {e a0 e0:Int} {l l':List Tok6} {p p':P6} {v v1 v2 v3 v1' v2' v3':Value} (h:Rn w W0 wr o n r g base e a0 e0 l p v1 v2 v3) (hp:Pg (W0.setCell ⟨o,j,none⟩ v) w' g o base l' e p' v1' v2' v3'):
  Rn w (W0.setCell ⟨o,j,none⟩ v) w' o n r g base e a0 e0 l' p' v1' v2' v3':=
 ⟨hp,⟨(hp.ps.bel.block o hp.og.2.1).symm.trans hp.blk,blk_far (p:=⟨o,j,none⟩) h.re.hn h.re.hne.1 v,blk_far (p:=⟨o,j,none⟩) h.re.hr h.re.hne.2.1 v,h.re.hne⟩,h.bel.setCell h.ge.1 v,h.ge,h.bas⟩
theorem Rn.gl {w W0 wr:World} {o n r g base:Nat} {e a0 e0:Int} {l:List Tok6} {p:P6} {v1 v2 v3:Value} (h:Rn w W0 wr o n r g base e a0 e0 l p v1 v2 v3) (hG:GL w):GL W0:=hG.of_below h.bel
theorem OwnV.put {w W:World} {okA:Nat→Prop} {o n r s:Nat} {vs ls:List De6} {fs:List Fn6} {v:Value} (h:OwnV W okA vs ls fs v) (hk: ∀ k,okA k→s≤k) (hs:w.heap.size≤s) (hf:o<s∧n<s∧r<s) (v1 v2 v3:Value) (a e:Int):OwnV (putR W o n r v1 v2 v3 a e) (fun k=>w.heap.size≤k) vs ls fs v:=by
 obtain ⟨B1,d1,B2,d2,B3,d3,he,hl,f1,f2,f3⟩:=h.out;have far: ∀ {α:Type} {d:Kd α} {A:Option Addr} {xs:List α},Kd.F d W okA A xs.length xs→Kd.F d (putR W o n r v1 v2 v3 a e) (fun k=>w.heap.size≤k) A xs.length xs:=fun hF=>
  Kd.F_mono (Kd.F_far (Kd.F_far (Kd.F_far (Kd.F_far (Kd.F_far hF (p:=⟨o,0,none⟩) (fun k h_=>show k≠o by have:=hk k h_;omega) _) (p:=⟨o,1,none⟩) (fun k h_=>show k≠o by have:=hk k h_;omega) _) (p:=⟨o,2,none⟩) (fun k h_=>show k≠o by have:=hk k h_;omega) _) (p:=⟨n,0,none⟩) (fun k h_=>show k≠n by have:=hk k h_;omega) _) (p:=⟨r,0,none⟩) (fun k h_=>show k≠r by have:=hk k h_;omega) _) (fun k h_=>Nat.le_trans hs (hk k h_))
 exact ⟨B1,d1,B2,d2,B3,d3,he,hl,far f1,far f2,far f3⟩
def noPanic (Q:Exit→Act→World→Prop):Exit→Act→World→Prop
 | .panic _,_,_=>False
 |e,a,w=>Q e a w
theorem noPanic_le {Q:Exit→Act→World→Prop} : ∀ e a w,noPanic Q e a w→Q e a w:=fun e a w h=>by
 cases e<;>first|exact h|exact h.elim
theorem ret_now {w W:World} {T:Array Value} {o n r:Nat} (h2:T[2]?.getD undef= .pointer (some ⟨o,0,none⟩)) (h3:T[3]?.getD undef= .pointer (some ⟨n,0,none⟩)) (h4:T[4]?.getD undef= .pointer (some ⟨r,0,none⟩)) {a e:Int}
  (h:Re W o n r (.slice none 0 0) (.slice none 0 0) (.slice none 0 0) a e) (hb:Below w.heap.size w W):
  bodyPostD Tryd.prog Tryd.f17 (EndP w [] [] [] a e) Exit.ret { tmps:=T,defers:=[] } W:=
 ⟨_,results_parse T o n r h2 h3 h4 h,_,_,_,rfl,Kd.V_nil _ _ _ _ _,Kd.V_nil _ _ _ _ _,Kd.V_nil _ _ _ _ _,hb⟩
set_option maxRecDepth 100000 in
set_option maxHeartbeats 1600000 in
theorem parse_Parse.calls (a0:ByteArray) (r1 r2:List De6) (r3:List Fn6) (r4 r5:Int) (w:World) (h:parse_Parse.f a0=some (r1,r2,r3,r4,r5)) (hG:GL w):
  Calls Tryd.prog 17 #[.string a0] w fun e w'=>∃ v0_ v1_ v2_:Value,e= .returned (.tuple #[.agg #[v0_,v1_,v2_],.int .i64 r4,.int .i64 r5])∧Kd.V k59 59 w' w.heap.size (fun k_=>w.heap.size≤k_) v0_ r1∧Kd.V k59 59 w' w.heap.size (fun k_=>w.heap.size≤k_) v1_ r2∧Kd.V k46 46 w' w.heap.size (fun k_=>w.heap.size≤k_) v2_ r3∧Below w.heap.size w w':=by
 show Calls Tryd.prog 17 #[.string a0] w (EndP w r1 r2 r3 r4 r5)
 have hu30:=Tryd.underlying30;have hu69:=Tryd.underlying69;have hmf: ∀ (fn:Fn) (first cap:Array Value) (w:World),(Instr.makeFunc fn first cap).run Tryd.prog w= .ok (.func fn first cap) w:=fun _ _ _ _=>rfl
 obtain ⟨⟨ts,at_,er⟩,hT⟩: ∃ x,lex_Tokens.f a0=some x:=by
  unfold parse_Parse.f at h
  cases hx:lex_Tokens.f a0 with
  |none=>rw [hx] at h;cases h
  |some x=>exact ⟨x,rfl⟩
 have HK:=Aside0.mk (tokens_kinds hT);have HTC:=Aside0.mk (fun W=>lex_Tokens.calls a0 ts at_ er W hT);have HG:=Aside0.mk hG;unfold parse_Parse.f at h
 rw [hT] at h;have H:=Aside0.mk h;clear h hT hG
 have s1:(w.alloc (.cells #[.slice none 0 0,.slice none 0 0,.slice none 0 0] 30)).heap.size=w.heap.size+1:=by simp only [World.alloc,Array.size_push]
 have s2:((w.alloc (.cells #[.slice none 0 0,.slice none 0 0,.slice none 0 0] 30)).alloc (.cells #[.int .i64 0] 3)).heap.size=w.heap.size+1+1:=by simp only [World.alloc,Array.size_push]
 have s3:(((w.alloc (.cells #[.slice none 0 0,.slice none 0 0,.slice none 0 0] 30)).alloc (.cells #[.int .i64 0] 3)).alloc (.cells #[.int .i64 0] 36)).heap.size=w.heap.size+1+1+1:=by simp only [World.alloc,Array.size_push]
 have RE0:Re (((w.alloc (.cells #[.slice none 0 0,.slice none 0 0,.slice none 0 0] 30)).alloc (.cells #[.int .i64 0] 3)).alloc (.cells #[.int .i64 0] 36)) w.heap.size (w.heap.size+1) (w.heap.size+1+1) (.slice none 0 0) (.slice none 0 0) (.slice none 0 0) 0 0:=by
  refine ⟨blk_alloc (blk_alloc (blk_new w _) _) _,?_,?_,by omega,by omega,by omega⟩;·have:=blk_new (w.alloc (.cells #[.slice none 0 0,.slice none 0 0,.slice none 0 0] 30)) (.cells #[.int .i64 0] 3);rw [s1] at this;exact blk_alloc this _
  ·have:=blk_new ((w.alloc (.cells #[.slice none 0 0,.slice none 0 0,.slice none 0 0] 30)).alloc (.cells #[.int .i64 0] 3)) (.cells #[.int .i64 0] 36);rw [s2] at this;exact this
 have RE:=Aside0.mk RE0;have HB:=Aside0.mk (below_alloc (below_alloc (below_alloc (Below.refl w.heap.size w) (.cells #[.slice none 0 0,.slice none 0 0,.slice none 0 0] 30)) (.cells #[.int .i64 0] 3)) (.cells #[.int .i64 0] 36));have HS3:=Aside0.mk s3;clear RE0 s3;go_enter_defers Tryd.func17,Tryd.ntmps17
 go_wp2_with fail
 clear s1 s2;generalize ((w.alloc (.cells #[.slice none 0 0,.slice none 0 0,.slice none 0 0] 30)).alloc (.cells #[.int .i64 0] 3)).alloc (.cells #[.int .i64 0] 36)=X at RE HB HS3 ⊢;refine (HTC.out _).mono ?_
 rintro E w1 ⟨v,rfl,hR,hb⟩
 obtain ⟨A,c,rfl⟩:=Kd.R_slice hR;have hX:w.heap.size+1+1<X.heap.size:=by rw [HS3.out];omega
 have R1:=Aside0.mk (RE.out.below hb);have HB1:=Aside0.mk (below_step HB.out hb);have n0:=blk_cell R1.out.hn 0;have n1:=blk_frozen R1.out.hn 0;have r0:=blk_cell R1.out.hr 0;have r1:=blk_frozen R1.out.hr 0;go_upto_region 2 with fail
 clear n0 n1 r0 r1;have R2:Aside0 (Re ((w1.setCell ⟨w.heap.size+1,0,none⟩ (.int .i64 at_)).setCell ⟨w.heap.size+1+1,0,none⟩ (.int .i64 er)) w.heap.size (w.heap.size+1) (w.heap.size+1+1) (.slice none 0 0) (.slice none 0 0) (.slice none 0 0) at_ er):=by
  have h1:=R1.out;refine ⟨⟨blk_far (p:=⟨w.heap.size+1+1,0,none⟩) (blk_far (p:=⟨w.heap.size+1,0,none⟩) h1.ho h1.hne.1.symm _) h1.hne.2.1.symm _,blk_far (p:=⟨w.heap.size+1+1,0,none⟩) (blk_put h1.hn 0 (.int .i64 at_) rfl) h1.hne.2.2.symm _,?_,h1.hne⟩⟩;exact blk_put (blk_far (p:=⟨w.heap.size+1,0,none⟩) h1.hr h1.hne.2.2 _) 0 (.int .i64 er) rfl
 have HR2:=Aside0.mk (Kd.R_far (p:=⟨w.heap.size+1+1,0,none⟩) (Kd.R_far (p:=⟨w.heap.size+1,0,none⟩) (Kd.R_mono (Kd.R_bound hR) (ok':=fun k=>X.heap.size≤k) (fun k hk=>hk.2.1)) (fun k hk=>show k≠w.heap.size+1 by omega) (.int .i64 at_)) (fun k hk=>show k≠w.heap.size+1+1 by omega) (.int .i64 er));have HB2:=Aside0.mk (Below.setCell (Below.setCell HB1.out (p:=⟨w.heap.size+1,0,none⟩) (Nat.le_succ _) (.int .i64 at_)) (p:=⟨w.heap.size+1+1,0,none⟩) (by show w.heap.size≤w.heap.size+1+1;omega) (.int .i64 er));generalize (w1.setCell ⟨w.heap.size+1,0,none⟩ (.int .i64 at_)).setCell ⟨w.heap.size+1+1,0,none⟩ (.int .i64 er)=Y at R2 HR2 HB2 ⊢;clear hR hX R1 HB1 RE HB HS3 hb;generalize hr_:w.heap.size+1+1=r at *;generalize hn_:w.heap.size+1=n at *;generalize hO:w.heap.size=o at R2 ⊢;have HGE:=Aside0.mk (show w.heap.size≤o∧w.heap.size≤n∧w.heap.size≤r by omega);clear hO hr_ hn_;by_cases hq:er=0
 ·have q:(er !=0)=false:=bne_eq_false_iff_eq.mpr hq;have rr:=blk_cell R2.out.hr 0;go_wp2_with fail
  subst hq;have hh:=H.out;rw [if_neg (by simp)] at hh;have HH:=Aside0.mk hh;have RN0:Rn w Y (Y.alloc (.cells #[.slice A ts.length c,.int .i64 (a0.size:Int)] 69)) o n r Y.heap.size (Y.heap.size+1) (a0.size:Int) at_ 0 ts ⟨[],[],[]⟩ (.slice none 0 0) (.slice none 0 0) (.slice none 0 0):=by
   obtain ⟨hn',hc',hC'⟩:=Kd.R_reads' HR2.out;have hbe:=below_alloc (Below.refl Y.heap.size Y) (.cells #[.slice A ts.length c,.int .i64 (a0.size:Int)] 69);have holt:=blk_lt R2.out.ho;refine ⟨⟨⟨⟨A,c,blk_new Y _,hc',hC',fun a ha=>?_⟩,Nat.le_refl _,hbe⟩,blk_alloc R2.out.ho _,Kd.R_nil _ _ _ _ _,Kd.R_nil _ _ _ _ _,Kd.R_nil _ _ _ _ _,by omega,holt,by omega⟩,R2.out,HB2.out,HGE.out,rfl⟩;exact Kd.R_typed HR2.out a.block (by rw [ha];rfl)
  have RN:=Aside0.mk RN0;clear hh RN0 rr q HB2 HR2 R2 H;generalize Y.alloc (.cells #[.slice A ts.length c,.int .i64 (a0.size:Int)] 69)=Z at RN ⊢;generalize Y.heap.size=g at RN ⊢;obtain ⟨tot,htot⟩: ∃ tot,progP (a0.size:Int) ts.length (ts.length+1) ts ⟨[],[],[]⟩=tot:=⟨_,rfl⟩;have HT:=Aside0.mk htot;have hh:=HH.out;rw [htot] at hh;have HH2:=Aside0.mk hh;clear hh HH htot;go_loopg [31] (ts.length+1) (fun k v31 wr=>∃ W0 l p v1 v2 v3,Aside0 (Rn w W0 wr o n r g (g+1) (a0.size:Int) at_ 0 l p v1 v2 v3)∧Aside0 (progP (a0.size:Int) ts.length k l p=tot)∧Aside0 (l<:+ts∧l.length<k∧k≤ts.length+1∧PSm p l.length))
  case atStart=>exact ⟨_,ts,⟨[],[],[]⟩,_,_,_,RN,HT,⟨List.suffix_refl _,by omega,by omega,⟨by simpa using (by have:=HK.out.2;omega),by simpa using (by have:=HK.out.2;omega),by simpa using (by have:=HK.out.2;omega),by simp⟩⟩⟩
  case round=>
   obtain ⟨W0,l,p,v1,v2,v3,HR,HE,HI⟩:=hrel;obtain ⟨A',c',k0_,hlc,hCC,hTA⟩:=HR.out.pg.ps.blk;have k0:=blk_cell k0_ 0;have k1:wr.cell? ⟨g,0,none⟩=some (.slice A' l.length c'):=k0;clear k0 k0_ hlc hCC hTA;cases l with
   |nil=>
    have k2:wr.cell? ⟨g,0,none⟩=some (.slice A' 0 c'):=k1;have hp:=HR.out.pg;obtain ⟨B1,d1,rfl⟩:=Kd.R_slice hp.r1;obtain ⟨B2,d2,rfl⟩:=Kd.R_slice hp.r2;obtain ⟨B3,d3,rfl⟩:=Kd.R_slice hp.r3;have F1:=Aside0.mk (Kd.F_mono (ok':=fun k=>g+1≤k) (Kd.R_F hp.r1) (fun k hk=>hk.1));have F2:=Aside0.mk (Kd.F_mono (ok':=fun k=>g+1≤k) (Kd.R_F hp.r2) (fun k hk=>hk.1));have F3:=Aside0.mk (Kd.F_mono (ok':=fun k=>g+1≤k) (Kd.R_F hp.r3) (fun k hk=>hk.1));obtain ⟨RW,hbw⟩:=HR.out.at_ hp.ps.bel;have o0:=blk_cell RW.ho 0;have o1:=blk_cell RW.ho 1;have o2:=blk_cell RW.ho 2;have hg:=hp.og;have hn1:=blk_lt HR.out.re.hn;have hr1:=blk_lt HR.out.re.hr;have hgg:W0.heap.size≤g:=hp.ps.ge;have HFAR:Aside0 (o<g∧n<g∧r<g):=⟨by omega,by omega,by omega⟩;have hgw:=hp.ps.lt;have HGW:Aside0 (w.heap.size≤g∧g<wr.heap.size):=⟨by have:=HGE.out;omega,hgw⟩;obtain ⟨p1,p2,p3,p4⟩:=HI.out.2.2.2;have HSM:Aside0 (p.vs.length≤1000000∧p.ls.length≤1000000∧p.fs.length≤1000000∧ ∀ x∈p.fs,Bnd x.f2):=⟨by omega,by omega,by omega,p4⟩;have HRW:=Aside0.mk RW;have HBW:=Aside0.mk hbw;clear k1 hp hg hn1 hr1 hgg hgw p1 p2 p3 p4 RW hbw;go_wp2_with fail
    refine (own_calls HSM.out.2.2.2 HSM.out.1 HSM.out.2.1 HSM.out.2.2.1 wr (fun k=>g+1≤k) F1.out F2.out F3.out).mono ?_
    rintro E w5 ⟨v,rfl,hO,hb5⟩
    have HO:=Aside0.mk hO;have HB5:=Aside0.mk hb5;obtain ⟨C1,e1,C2,e2,C3,e3,rfl,-⟩:=hO.out;clear hO hb5 k2 o0 o1 o2;have R5:=Aside0.mk (HRW.out.below HB5.out);have o0:=blk_cell R5.out.ho 0;have o1:=blk_cell R5.out.ho 1;have o2:=blk_cell R5.out.ho 2;have y0:=blk_frozen R5.out.ho 0;have y1:=blk_frozen R5.out.ho 1;have y2:=blk_frozen R5.out.ho 2;have hn0:=blk_cell R5.out.hn 0;have hn1:=blk_frozen R5.out.hn 0;have hr0:=blk_cell R5.out.hr 0;have hr1:=blk_frozen R5.out.hr 0;obtain ⟨hno,hro,hrn⟩:=R5.out.hne;go_wp2_with fail
    have R6:=R5.out.put (.slice C1 p.vs.length e1) (.slice C2 p.ls.length e2) (.slice C3 p.fs.length e3) 0 0;have hx:=HE.out;cases gk with
    |zero=>exact absurd HI.out.2.1 (by omega)
    |succ k=>
    simp only [progP] at hx;have hh:=HH2.out;rw [← hx] at hh;simp only [Option.some.injEq,Prod.mk.injEq] at hh;obtain ⟨rfl,rfl,rfl,rfl,rfl⟩:=hh;have hgw:=HGW.out;have hfr:=HFAR.out;have hge:=HGE.out;exact door_good rfl rfl rfl R6 (HO.out.put (s:=g) (fun k hk=>by rcases hk with h_|h_<;>omega) hgw.1 hfr _ _ _ _ _) (putR_below (below_step HBW.out HB5.out) hge _ _ _ _ _)
   |cons t l'=>
    have k2:wr.cell? ⟨g,0,none⟩=some (.slice A' (l'.length+1) c'):=k1;have d1:decide (((l'.length+1:Nat):Int)>0)=true:=decide_eq_true (by omega);have d2:decide (0<l'.length+1)=true:=decide_eq_true (by omega);have d3:decide ((0:Int)<(l'.length:Int)+1)=true:=decide_eq_true (by omega);have hkd: ∀ x∈(t::l'),x.f0≠0:=fun x hx=>HK.out.1 x (HI.out.1.subset hx)
    have hll:(t::l').length≤ts.length:=HI.out.1.length_le;have hL2:=HK.out.2;have hGW:GL W0:=HR.out.gl HG.out;have hps:=HI.out.2.2.2;have HD:=decl_of (blockW (a0.size:Int) (stmtsP (a0.size:Int) ts.length) 0)
     (fun w r hP hr=>block_calls hGW ts.length w r 0 hP (fun x hx=>hkd x (List.mem_of_mem_tail (hr.subset hx))) (by have:=hr.length_le;have h_:(t::l').tail.length=l'.length:=rfl;have h2_:(t::l').length=l'.length+1:=rfl;omega) (by have:=hr.length_le;have h_:(t::l').tail.length=l'.length:=rfl;have h2_:(t::l').length=l'.length+1:=rfl;omega) (by decide) (by decide))
     HR.out.pg hkd hGW ⟨by have:=hps.vs;omega,by have:=hps.ls;omega,by have:=hps.fs;omega⟩ (by have:=HR.out.pg.ps.lt;omega)
    obtain ⟨od,hod⟩: ∃ od,declW (a0.size:Int) (blockW (a0.size:Int) (stmtsP (a0.size:Int) ts.length) 0) (t::l') p=od:=⟨_,rfl⟩;rw [hod] at HD;have HDC:=Aside0.mk HD;have HOD:=Aside0.mk hod;clear k1 hkd hll hL2 hGW hps HD hod;go_wp2_with fail
    refine HDC.out.mono ?_
    cases od with
    |bad xa xb=>
     rintro E w4 ⟨rfl,hb4,hk4⟩
     obtain ⟨RW,hbw⟩:=HR.out.at_ hb4;have hx:=HE.out;cases gk with
     |zero=>exact absurd HI.out.2.1 (by omega)
     |succ k=>
     simp only [progP] at hx;rw [HOD.out] at hx;have hh:=HH2.out;rw [← hx] at hh;simp only [Option.some.injEq,Prod.mk.injEq] at hh;obtain ⟨rfl,rfl,rfl,rfl,rfl⟩:=hh;clear HDC;go_wp2_with fail
     exact door_bad rfl rfl rfl xa xb RW hbw HGE.out
    |ok p' r'=>
     rintro E w4 ⟨rfl,j,v,u1,u2,u3,hPg⟩
     have HR4:=Aside0.mk (HR.out.next hPg);have hx:=HE.out;cases gk with
     |zero=>exact absurd HI.out.2.1 (by omega)
     |succ k=>
     simp only [progP] at hx;rw [HOD.out] at hx;have HX:=Aside0.mk hx;obtain ⟨hsm,hsf⟩:=declW_sm (fun l A r hb=>blockW_suf (fun d l A r hb2=>stmtsP_suf _ hb2) hb) (fun l A r hl hb=>blockW_bnd (fun d l A r hl h=>(stmtsP_bnd _ d l A r hl h).1) hl hb) HI.out.2.2.2 HOD.out;have HSM:=Aside0.mk hsm;have HSF:=Aside0.mk hsf;clear HDC hPg hx hsm hsf;go_wp2_with fail
     go_roundg k
     case rel=>
      have h1:=HI.out;have h2:=HSF.out.length_le;have h3:(t::l').length=l'.length+1:=rfl;exact ⟨_,r',p',u1,u2,u3,HR4,HX,⟨(HSF.out.trans (List.suffix_cons t l')).trans h1.1,by omega,by omega,HSM.out⟩⟩
     case measure=>omega
 ·have q:(er !=0)=true:=bne_iff_ne.mpr hq;have rr:=blk_cell R2.out.hr 0;go_upto_region 3 with fail
  have f0:=blk_cell R2.out.hn 0;have f1:=blk_cell R2.out.hr 0;have o0:=blk_cell R2.out.ho 0;have o1:=blk_cell R2.out.ho 1;have o2:=blk_cell R2.out.ho 2;have y0:=blk_frozen R2.out.ho 0;have y1:=blk_frozen R2.out.ho 1;have y2:=blk_frozen R2.out.ho 2;have hn1:=blk_frozen R2.out.hn 0;have hr1:=blk_frozen R2.out.hr 0;obtain ⟨hno,hro,hrn⟩:=R2.out.hne;refine Code.wp_mono noPanic_le ?_
  refine start_ (n:=6) (S:=fun w'=>w'.cell? ⟨n,0,none⟩=some (.int .i64 at_)∧w'.cell? ⟨r,0,none⟩=some (.int .i64 er)) (ds:=[5]) #[false,false,false,false,false,false] (by kernel_rfl) rfl rfl ⟨f0,f1⟩ (fun hHeld=>?_);refine pure_ (i:=0) (N:=some 15) (v:=?_) (a':=?_) #[true,false,false,false,false,false] rfl rfl (by kernel_rfl) (fun _ _ _ h=>h) (Or.inl ⟨by rfl,?_⟩) ?_ ?_
  rotate_left;·intro w';go_simp;with_reducible rfl
  rotate_left;·simp only [Act.put,q1_,q2_,q3_,i64_w,i32_w];rfl
  refine take_ (i:=1) (N:=some 16) (v:=?_) (a':=?_) #[true,true,false,false,false,false] rfl rfl (by kernel_rfl) (fun _ _ _ h=>h) (Or.inl ⟨by rfl,?_⟩) hHeld ?_ ?_
  rotate_left
  ·rintro w' ⟨s0,s1⟩
   go_simp;with_reducible rfl
  rotate_left;·simp only [Act.put,q1_,q2_,q3_,i64_w,i32_w];rfl
  refine take_ (i:=2) (N:=some 17) (v:=?_) (a':=?_) #[true,true,true,false,false,false] rfl rfl (by kernel_rfl) (fun _ _ _ h=>h) (Or.inl ⟨by rfl,?_⟩) hHeld ?_ ?_
  rotate_left
  ·rintro w' ⟨s0,s1⟩
   go_simp;with_reducible rfl
  rotate_left;·simp only [Act.put,q1_,q2_,q3_,i64_w,i32_w];rfl
  refine one_ (i:=3) (N:=none) #[true,true,true,true,false,false] rfl rfl (by kernel_rfl) (by decide) (fun K hK=>?_);refine skip_ (w1:=?_) (by rfl) rfl ?_ ?_
  rotate_left;·go_simp;rfl
  refine hK.out _ _ ⟨cell_far3 hno f0,cell_far3 hro f1⟩ (fun hHeld=>?_);clear hK K;refine one_ (i:=4) (N:=none) #[true,true,true,true,true,false] rfl rfl (by kernel_rfl) (by decide) (fun K hK=>?_);refine skip_ (w1:=?_) (by rfl) rfl ?_ ?_
  rotate_left;·go_simp;rfl
  refine hK.out _ _ ⟨cell_same4 hno f0,cell_far4 hro hrn f1⟩ (fun hHeld=>?_);clear hK K;refine last_ (i:=5) (N:=none) #[true,true,true,true,true,true] rfl rfl (by kernel_rfl) (by decide) (fun K hK=>?_);refine skip_ (w1:=?_) (by rfl) rfl ?_ ?_
  rotate_left;·go_simp;rfl
  refine hK.out _ _ ?_
  clear hK K;refine done_ (by kernel_rfl) ?_
  have hh:=H.out;rw [if_pos hq] at hh;simp only [Option.some.injEq,Prod.mk.injEq] at hh;obtain ⟨rfl,rfl,rfl,rfl,rfl⟩:=hh;clear hHeld f0 f1 o0 o1 o2 y0 y1 y2 hn1 hr1;simp only [noPanic];go_wp2
  have R3:=R2.out.put (.slice none 0 0) (.slice none 0 0) (.slice none 0 0) at_ er;exact ret_now rfl rfl rfl (R3.below (below_drew (Below.refl _ _))) (below_drew (putR_below HB2.out HGE.out _ _ _ _ _))
end Go.Proofs.YtkmafndljelopaaDoor.Q
