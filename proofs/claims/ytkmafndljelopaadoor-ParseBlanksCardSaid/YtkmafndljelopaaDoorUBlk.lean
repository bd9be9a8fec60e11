/- Chapter 6's Few, Block, Prog: what they come to, in plain words. -/
import Derived.Test.YtkmafndljelopaaDoorUEv
import Derived.Test.YtkmafndljelopaaDoorURnd
import Derived.Test.YtkmafndljelopaaDoorUText6
import Derived.Test.YtkmafndljelopaaDoorUQ2
import Derived.Test.YtkmafndljelopaaDoorUQ7
import Derived.Test.YtkmafndljelopaaDoorUQ3
import Derived.Test.YtkmafndljelopaaDoorUQ4
namespace Go.Proofs.YtkmafndljelopaaDoor.Q
open Go.RowKit Go.Proofs.YtkmafndljelopaaDoorW.PrintWords Go.Proofs.YtkmafndljelopaaDoorW.PrintLast Go.Proofs.YtkmafndljelopaaDoorW.PrintMore Go.Proofs.YtkmafndljelopaaDoor.Lx
set_option linter.unusedVariables false
set_option linter.unusedSimpArgs false
abbrev Rw6:=S105
mutual
def rzS:Rw6→Nat
 |⟨_,_,A,B⟩=>1+rzL A+rzL B
def rzL:List Rw6→Nat
 |[]=>0
 |s::r=>rzS s+rzL r
end
mutual
def rdS:Rw6→Nat
 |⟨_,_,A,B⟩=>1+max (rdL A) (rdL B)
def rdL:List Rw6→Nat
 |[]=>0
 |s::r=>max (rdS s) (rdL r)
end
theorem rzS_eq (x:Rw6):rzS x=1+rzL x.f2+rzL x.f3:=by cases x;simp [rzS]
theorem rdS_eq (x:Rw6):rdS x=1+max (rdL x.f2) (rdL x.f3):=by cases x;simp [rdS]
theorem rzL_mem: ∀ {xs:List Rw6} {x:Rw6},x∈xs→rzS x≤rzL xs
 |s::r,x,h=>by
  rcases List.mem_cons.1 h with rfl|h
  ·simp only [rzL];omega
  ·have:=rzL_mem h;simp only [rzL];omega
theorem rzL_len: ∀ xs:List Rw6,xs.length≤rzL xs
 |[]=>by simp [rzL]
 |s::r=>by
  have:=rzL_len r;have h:=rzS_eq s;simp only [rzL,List.length_cons];omega
theorem rd_raw (l:List Rw6) (i:Nat) (h:i<l.length):rd_T105 l (i:Int)=l[i]:=by
 unfold rd_T105
 rw [Int.toNat_natCast,List.getD_eq_getElem?_getD,List.getElem?_eq_getElem h,Option.getD_some]
theorem w64_1 (d:Nat) (h:d≤1000000):wrap64 ((d:Int)+1)=((d+1:Nat):Int):=by rw [w64 (by omega)];omega
theorem w64_3 (n v1 v2:Nat) (h1:n≤40) (h2:v1≤5000000) (h3:v2≤5000000):wrap64 ((wrap64 ((wrap64 ((n:Int)+1))+(v1:Int)))+(v2:Int))=((n+1+v1+v2:Nat):Int):=by
 rw [w64 (n:=(n:Int)+1) (by omega),w64 (n:=(n:Int)+1+v1) (by omega),w64 (by omega)];omega
theorem size_ev: ∀ (j:Nat) (l:List Rw6) (d:Nat),j+d=13→ ∃ v:Nat,EvS (fun k=>deadboltlaw6_size.f k l (d:Int)) (v:Int)∧v+41≤1041 * 2 ^ j∧(v≤40→rzL l=v∧d+rdL l≤12)
 |0,l,d,hd=>by
  refine ⟨1000,EvS.succ ?_,by decide,fun h=>by omega⟩;simp only [deadboltlaw6_size.f];exact EvS.if_pos (by omega) (.some_ _)
 |j+1,l,d,hd=>by
  have hp:2 ^ (j+1)=2 * 2 ^ j:=by rw [Nat.pow_succ];omega
  have hp2:2 ^ j≤2 ^ 12:=Nat.pow_le_pow_right (by decide) (by omega);have hp3:(2:Nat) ^ 12=4096:=by decide
  have hp4:1≤2 ^ j:=Nat.one_le_two_pow;have hlen: ∀ (L:Nat),l.length=L→L≤l.length:=fun L h=>by omega
  have H: ∀ (m i n:Nat),l.length - i=m→i≤l.length→n+41≤1041 * 2 ^ (j+1)→i≤n→
    ∃ v:Nat,EvS (fun k=>deadboltlaw6_size.l0 k l (d:Int) (n:Int) (i:Int)) (v:Int)∧v+41≤1041 * 2 ^ (j+1)∧n≤v∧(v≤40→n+rzL (l.drop i)=v∧d+rdL (l.drop i)≤12):=by
   intro m;induction m with
   |zero=>
    intro i n hm hi hn hin;obtain rfl:i=l.length:=by omega
    refine ⟨n,EvS.succ ?_,hn,Nat.le_refl _,fun h=>⟨by simp [rzL],by simp [rdL];omega⟩⟩;simp only [deadboltlaw6_size.l0];refine EvS.if_neg (by omega) (EvS.succ ?_);simp only [deadboltlaw6_size.j1];exact EvS.if_neg (by decide) (.some_ _)
   |succ m ih=>
    intro i n hm hi hn hin;have hlt:i<l.length:=by omega
    by_cases h40:n≤40
    ·obtain ⟨v1,e1,b1,c1⟩:=size_ev j l[i].f2 (d+1) (by omega);obtain ⟨v2,e2,b2,c2⟩:=size_ev j l[i].f3 (d+1) (by omega);obtain ⟨v,e3,b3,g3,c3⟩:=ih (i+1) (n+1+v1+v2) (by omega) (by omega) (by omega) (by omega);refine ⟨v,EvS.succ ?_,b3,by omega,?_⟩
     ·simp only [deadboltlaw6_size.l0];refine EvS.if_pos (by omega) (EvS.succ ?_);simp only [deadboltlaw6_size.j1];refine EvS.if_pos (by simp;omega) (EvS.if_pos (by omega) (EvS.if_pos (by omega) ?_));rw [rd_raw l i hlt,w64_1 d (by omega)];refine EvS.bind e1 (EvS.bind e2 ?_);rw [w64_3 n v1 v2 h40 (by omega) (by omega),w64_1 i (by omega)];exact e3
     ·intro hv;obtain ⟨q1,q2⟩:=c3 hv;obtain ⟨q3,q4⟩:=c1 (by omega);obtain ⟨q5,q6⟩:=c2 (by omega);have r1:=rzS_eq l[i];have r2:=rdS_eq l[i];rw [List.drop_eq_getElem_cons hlt,rzL,rdL];omega
    ·refine ⟨n,EvS.succ ?_,hn,Nat.le_refl _,fun h=>absurd h h40⟩;simp only [deadboltlaw6_size.l0];refine EvS.if_pos (by omega) (EvS.succ ?_);simp only [deadboltlaw6_size.j1];exact EvS.if_neg (by simp;omega) (.some_ _)
  obtain ⟨v,e,b,_,c⟩:=H l.length 0 0 (by omega) (by omega) (by omega) (by omega);refine ⟨v,EvS.succ ?_,b,fun h=>?_⟩;·simp only [deadboltlaw6_size.f];exact EvS.if_neg (by omega) e
  ·have:=c h;simpa using this
theorem Few_ev (l:List Rw6): ∃ b:Bool,EvS (fun k=>deadboltlaw6_Few.f k l) b∧(b=true→rzL l≤40∧rdL l≤12):=by
 obtain ⟨v,e,_,c⟩:=size_ev 13 l 0 rfl;refine ⟨decide ((v:Int)≤40),EvS.bind e (.some_ _),fun h=>?_⟩;have h1:=of_decide_eq_true h;obtain ⟨h2,h3⟩:=c (by omega);omega
def nmX:List ByteArray:= [(⟨#[120]⟩:ByteArray),(⟨#[121]⟩:ByteArray),(⟨#[122]⟩:ByteArray)]
def nmL:List ByteArray:= [(⟨#[108]⟩:ByteArray),(⟨#[109]⟩:ByteArray),(⟨#[110]⟩:ByteArray)]
def nmF:List ByteArray:= [(⟨#[102]⟩:ByteArray),(⟨#[103]⟩:ByteArray),(⟨#[104]⟩:ByteArray),(⟨#[109,97,105,110]⟩:ByteArray)]
def oneS (k n:Int) (A B:List St6):St6:=
 if k=1∨k=2 then ⟨k,0,rdOf ByteArray.empty nmX (n % 3),[],[]⟩
 else if k=3∨k=4 then ⟨k,0,rdOf ByteArray.empty nmL (n % 3),[],[]⟩
 else if k=5∨k=6 then ⟨k,0,rdOf ByteArray.empty nmF (n % 4),[],[]⟩
 else if k=7 then ⟨7,0,⟨#[]⟩,A,B⟩ else ⟨8,0,⟨#[]⟩,A,[]⟩
mutual
def blkS:Rw6→St6
 |⟨K,n,A,B⟩=>oneS (1+K % 8) n (blkL A) (blkL B)
def blkL:List Rw6→List St6
 |[]=>[]
 |s::r=>blkS s::blkL r
end
theorem blkS_eq (x:Rw6):blkS x=oneS (1+x.f0 % 8) x.f1 (blkL x.f2) (blkL x.f3):=by cases x;simp [blkS]
set_option maxHeartbeats 1000000 in
theorem Block_ev (l:List Rw6) (hl:rzL l≤1000000):EvS (fun k=>deadboltlaw6_Block.f k l) (blkL l):=by
 have hll:=rzL_len l;have H: ∀ (m i:Nat) (acc:List St6),l.length - i=m→i≤l.length→acc.length=i→EvS (fun k=>deadboltlaw6_Block.l0 k l acc (i:Int)) (acc++blkL (l.drop i)):=by
  intro m;induction m with
  |zero=>
   intro i acc hm hi ha;obtain rfl:i=l.length:=by omega
   refine EvS.succ ?_
   simp only [deadboltlaw6_Block.l0];refine EvS.if_neg (by omega) ?_
   rw [List.drop_length,blkL,List.append_nil];exact .some_ _
  |succ m ih=>
   intro i acc hm hi ha;have hlt:i<l.length:=by omega
   have hmem:l[i]∈l:=List.getElem_mem hlt;have hz:=rzL_mem hmem;have hz2:=rzS_eq l[i];have hs1:SizeOf.sizeOf l[i].f2<SizeOf.sizeOf l:=by
    have h1:=List.sizeOf_lt_of_mem hmem;have h2:SizeOf.sizeOf l[i].f2<SizeOf.sizeOf l[i]:=by cases l[i];simp;omega
    omega
   have hs2:SizeOf.sizeOf l[i].f3<SizeOf.sizeOf l:=by
    have h1:=List.sizeOf_lt_of_mem hmem;have h2:SizeOf.sizeOf l[i].f3<SizeOf.sizeOf l[i]:=by cases l[i];simp;omega
    omega
   have hi6:i≤1000000:=by omega
   have next: ∀ s:St6,s=blkS l[i]→EvS (fun k=>deadboltlaw6_Block.l0 k l (acc++ [s]) (wrap64 ((i:Int)+1))) (acc++blkL (l.drop i)):=by
    rintro _ rfl
    rw [w64_1 i hi6,List.drop_eq_getElem_cons hlt,blkL];have:=ih (i+1) (acc++ [blkS l[i]]) (by omega) (by omega) (by simp;omega);rwa [List.append_assoc,List.singleton_append] at this
   refine EvS.succ ?_
   simp only [deadboltlaw6_Block.l0];refine EvS.if_pos (by omega) (EvS.if_pos (by omega) ?_);rw [rd_raw l i hlt];refine EvS.bind1 (within6_f l[i].f0 8 (by decide) (by decide)) ?_
   rw [w64 (n:=1+l[i].f0 % 8) (by omega)];have hk1:1≤1+l[i].f0 % 8:=by omega
   have hk8:1+l[i].f0 % 8≤8:=by omega
   obtain ⟨kk,hkk⟩: ∃ kk,1+l[i].f0 % 8=kk:=⟨_,rfl⟩;rw [hkk] at hk1 hk8 ⊢;have hc:kk=1∨kk=2∨kk=3∨kk=4∨kk=5∨kk=6∨kk=7∨kk=8:=by omega
   rcases hc with rfl|rfl|rfl|rfl|rfl|rfl|rfl|rfl
   ·refine EvS.if_pos (by trivial) (EvS.succ ?_);simp only [deadboltlaw6_Block.j1];refine EvS.if_pos (by decide) (EvS.bind1 rfl (EvS.bind1 (within6_f _ 3 (by decide) (by decide)) (EvS.if_pos (by omega) (EvS.if_pos (by show _<((3:Nat):Int);omega) (EvS.if_pos (by omega) ?_)))));exact next _ (by rw [blkS_eq,hkk];rfl)
   ·refine EvS.if_neg (by decide) (EvS.succ ?_);simp only [deadboltlaw6_Block.j1];refine EvS.if_pos (by decide) (EvS.bind1 rfl (EvS.bind1 (within6_f _ 3 (by decide) (by decide)) (EvS.if_pos (by omega) (EvS.if_pos (by show _<((3:Nat):Int);omega) (EvS.if_pos (by omega) ?_)))));exact next _ (by rw [blkS_eq,hkk];rfl)
   ·refine EvS.if_neg (by decide) (EvS.succ ?_);simp only [deadboltlaw6_Block.j1];refine EvS.if_neg (by decide) ?_
    refine EvS.if_pos (by trivial) (EvS.succ ?_);simp only [deadboltlaw6_Block.j2];refine EvS.if_pos (by decide) (EvS.bind1 rfl (EvS.bind1 (within6_f _ 3 (by decide) (by decide)) (EvS.if_pos (by omega) (EvS.if_pos (by show _<((3:Nat):Int);omega) (EvS.if_pos (by omega) ?_)))));exact next _ (by rw [blkS_eq,hkk];rfl)
   ·refine EvS.if_neg (by decide) (EvS.succ ?_);simp only [deadboltlaw6_Block.j1];refine EvS.if_neg (by decide) ?_
    refine EvS.if_neg (by decide) (EvS.succ ?_);simp only [deadboltlaw6_Block.j2];refine EvS.if_pos (by decide) (EvS.bind1 rfl (EvS.bind1 (within6_f _ 3 (by decide) (by decide)) (EvS.if_pos (by omega) (EvS.if_pos (by show _<((3:Nat):Int);omega) (EvS.if_pos (by omega) ?_)))));exact next _ (by rw [blkS_eq,hkk];rfl)
   ·refine EvS.if_neg (by decide) (EvS.succ ?_);simp only [deadboltlaw6_Block.j1];refine EvS.if_neg (by decide) ?_
    refine EvS.if_neg (by decide) (EvS.succ ?_);simp only [deadboltlaw6_Block.j2];refine EvS.if_neg (by decide) ?_
    refine EvS.if_pos (by trivial) (EvS.succ ?_);simp only [deadboltlaw6_Block.j3];refine EvS.if_pos (by decide) (EvS.bind1 rfl (EvS.bind1 (within6_f _ 4 (by decide) (by decide)) (EvS.if_pos (by omega) (EvS.if_pos (by show _<((4:Nat):Int);omega) (EvS.if_pos (by omega) ?_)))));exact next _ (by rw [blkS_eq,hkk];rfl)
   ·refine EvS.if_neg (by decide) (EvS.succ ?_);simp only [deadboltlaw6_Block.j1];refine EvS.if_neg (by decide) ?_
    refine EvS.if_neg (by decide) (EvS.succ ?_);simp only [deadboltlaw6_Block.j2];refine EvS.if_neg (by decide) ?_
    refine EvS.if_neg (by decide) (EvS.succ ?_);simp only [deadboltlaw6_Block.j3];refine EvS.if_pos (by decide) (EvS.bind1 rfl (EvS.bind1 (within6_f _ 4 (by decide) (by decide)) (EvS.if_pos (by omega) (EvS.if_pos (by show _<((4:Nat):Int);omega) (EvS.if_pos (by omega) ?_)))));exact next _ (by rw [blkS_eq,hkk];rfl)
   ·refine EvS.if_neg (by decide) (EvS.succ ?_);simp only [deadboltlaw6_Block.j1];refine EvS.if_neg (by decide) ?_
    refine EvS.if_neg (by decide) (EvS.succ ?_);simp only [deadboltlaw6_Block.j2];refine EvS.if_neg (by decide) ?_
    refine EvS.if_neg (by decide) (EvS.succ ?_);simp only [deadboltlaw6_Block.j3];refine EvS.if_neg (by decide) ?_
    refine EvS.if_pos (by trivial) (EvS.if_pos (by omega) (EvS.if_pos (by omega) ?_));rw [rd_raw l i hlt];refine EvS.bind (Block_ev l[i].f2 (by omega)) (EvS.bind (Block_ev l[i].f3 (by omega)) (EvS.if_pos (by omega) ?_));exact next _ (by rw [blkS_eq,hkk];rfl)
   ·refine EvS.if_neg (by decide) (EvS.succ ?_);simp only [deadboltlaw6_Block.j1];refine EvS.if_neg (by decide) ?_
    refine EvS.if_neg (by decide) (EvS.succ ?_);simp only [deadboltlaw6_Block.j2];refine EvS.if_neg (by decide) ?_
    refine EvS.if_neg (by decide) (EvS.succ ?_);simp only [deadboltlaw6_Block.j3];refine EvS.if_neg (by decide) ?_
    refine EvS.if_neg (by decide) (EvS.if_pos (by trivial) (EvS.if_pos (by omega) (EvS.if_pos (by omega) ?_)));rw [rd_raw l i hlt];refine EvS.bind (Block_ev l[i].f2 (by omega)) (EvS.if_pos (by omega) ?_);exact next _ (by rw [blkS_eq,hkk];rfl)
 refine EvS.succ ?_
 simp only [deadboltlaw6_Block.f];have:=H l.length 0 [] (by omega) (by omega) rfl;rwa [List.drop_zero,List.nil_append] at this
termination_by SizeOf.sizeOf l
theorem nm_ok (n:Int):nameB (rdOf ByteArray.empty nmX (n % 3)).data.toList=true∧nameB (rdOf ByteArray.empty nmL (n % 3)).data.toList=true∧nameB (rdOf ByteArray.empty nmF (n % 4)).data.toList=true:=by
 have h3:n % 3=0∨n % 3=1∨n % 3=2:=by omega
 have h4:n % 4=0∨n % 4=1∨n % 4=2∨n % 4=3:=by omega
 refine ⟨?_,?_,?_⟩;·rcases h3 with h|h|h<;>rw [h]<;>decide
 ·rcases h3 with h|h|h<;>rw [h]<;>decide
 ·rcases h4 with h|h|h|h<;>rw [h]<;>decide
theorem nm_len (n:Int):(rdOf ByteArray.empty nmX (n % 3)).data.toList.length≤6∧(rdOf ByteArray.empty nmL (n % 3)).data.toList.length≤6∧(rdOf ByteArray.empty nmF (n % 4)).data.toList.length≤6:=by
 have h3:n % 3=0∨n % 3=1∨n % 3=2:=by omega
 have h4:n % 4=0∨n % 4=1∨n % 4=2∨n % 4=3:=by omega
 refine ⟨?_,?_,?_⟩;·rcases h3 with h|h|h<;>rw [h]<;>decide
 ·rcases h3 with h|h|h<;>rw [h]<;>decide
 ·rcases h4 with h|h|h|h<;>rw [h]<;>decide
theorem oneS_cases {C:St6→Prop} (K n:Int) (A B:List St6)
  (h1: ∀ (k:Int) (nm:ByteArray),1≤k→k≤6→nameB nm.data.toList=true→nm.data.toList.length≤6→C ⟨k,0,nm,[],[]⟩) (h7:C ⟨7,0,⟨#[]⟩,A,B⟩) (h8:C ⟨8,0,⟨#[]⟩,A,[]⟩):C (oneS (1+K % 8) n A B):=by
 obtain ⟨a,b,c⟩:=nm_ok n;obtain ⟨a',b',c'⟩:=nm_len n;unfold oneS
 split
 ·exact h1 _ _ (by omega) (by omega) a a'
 split
 ·exact h1 _ _ (by omega) (by omega) b b'
 split
 ·exact h1 _ _ (by omega) (by omega) c c'
 split
 ·exact h7
 ·exact h8
mutual
theorem blkS_wf: ∀ x:Rw6,wfS (blkS x)=true
 |⟨K,n,A,B⟩=>by
  rw [blkS];have hA:=blkL_wf A;have hB:=blkL_wf B;refine oneS_cases (C:=fun s=>wfS s=true) K n _ _ ?_ ?_ ?_
  ·intro k nm h1 h6 hn _;simp only [wfS];rw [if_neg (by omega),if_neg (by omega)];simp [h1,h6,hn]
  ·simp [wfS,hA,hB]
  ·simp [wfS,hA]
theorem blkL_wf: ∀ l:List Rw6,wfL (blkL l)=true
 |[]=>rfl
 |s::r=>by rw [blkL,wfL,blkS_wf s,blkL_wf r];rfl
end
mutual
theorem blkS_dp: ∀ x:Rw6,dpS (blkS x)≤rdS x
 |⟨K,n,A,B⟩=>by
  rw [blkS];have hA:=blkL_dp A;have hB:=blkL_dp B;refine oneS_cases (C:=fun s=>dpS s≤rdS ⟨K,n,A,B⟩) K n _ _ ?_ ?_ ?_
  ·intro k nm h1 h6 hn _;simp only [dpS,dpL,rdS];omega
  ·simp only [dpS,rdS];omega
  ·simp only [dpS,dpL,rdS];omega
theorem blkL_dp: ∀ l:List Rw6,dpL (blkL l)≤rdL l
 |[]=>Nat.le_refl _
 |s::r=>by
  have h1:=blkS_dp s;have h2:=blkL_dp r;rw [blkL,dpL,rdL];omega
end
def spT (ws:List ByteArray):List UInt8:=ws.flatMap fun w=>w.data.toList++ [32]
theorem spT_app (a b:List ByteArray):spT (a++b)=spT a++spT b:=by simp [spT]
theorem spT_cons (w:ByteArray) (b:List ByteArray):spT (w::b)=(w.data.toList++ [32])++spT b:=by simp [spT]
theorem verb_len (k:Int) (h0:1≤k) (h1:k≤8):(verbC k).data.toList.length≤6:=by
 obtain ⟨m,rfl⟩: ∃ m:Nat,k=m:=⟨k.toNat,by omega⟩;have hm:m<9:=by omega
 have hp:1≤m:=by omega
 clear h0 h1;revert m
 decide+kernel
mutual
theorem blkS_len: ∀ x:Rw6,(stW (blkS x)).length≤6 * rzS x∧(spT (stW (blkS x))).length≤30 * rzS x
 |⟨K,n,A,B⟩=>by
  rw [blkS];obtain ⟨hA,hA'⟩:=blkL_len A;obtain ⟨hB,hB'⟩:=blkL_len B;have ho:openB.data.toList.length=1:=rfl;have hc:closeB.data.toList.length=1:=rfl;have he:elseT.data.toList.length=4:=rfl;refine oneS_cases (C:=fun s=>(stW s).length≤6 * rzS ⟨K,n,A,B⟩∧(spT (stW s)).length≤30 * rzS ⟨K,n,A,B⟩) K n _ _ ?_ ?_ ?_
  ·intro k nm h1 h6 hn hl;have hv:=verb_len k (by omega) (by omega);rw [stW_eq];simp only
   rw [if_neg (by omega),if_neg (by omega)];simp only [rzS,spT,List.flatMap_cons,List.flatMap_nil,List.length_append,List.length_cons,List.length_nil];omega
  ·have hv:=verb_len 7 (by decide) (by decide);rw [stW_eq];simp only [show ¬ (7:Int)=8 by decide,if_false,if_true];cases hb:(blkL B).isEmpty with
   |true=>
    simp only [if_true,rzS,blW,spT_cons,spT_app,List.append_nil,List.length_append,List.length_cons,List.length_nil,ho,hc,show spT []= [] from rfl];omega
   |false=>
    simp only [Bool.false_eq_true,if_false,rzS,blW,spT_cons,spT_app,List.length_append,List.length_cons,List.length_nil,ho,hc,he,show spT []= [] from rfl];omega
  ·have hv:=verb_len 8 (by decide) (by decide);rw [stW_eq];simp only [if_true,rzS,blW,spT_cons,spT_app,List.length_append,List.length_cons,List.length_nil,ho,hc,show spT []= [] from rfl];omega
theorem blkL_len: ∀ l:List Rw6,(lsW (blkL l)).length≤6 * rzL l∧(spT (lsW (blkL l))).length≤30 * rzL l
 |[]=>⟨by simp [blkL,lsW],by simp [blkL,lsW,spT]⟩
 |s::r=>by
  obtain ⟨h1,h2⟩:=blkS_len s;obtain ⟨h3,h4⟩:=blkL_len r;rw [blkL,lsW,rzL,spT_app,List.length_append,List.length_append];omega
end
def prV:List De6:= [⟨⟨#[120]⟩,0⟩,⟨⟨#[121]⟩,0⟩,⟨⟨#[122]⟩,0⟩]
def prL (t:Int):List De6:=if t % 3=0 then [⟨⟨#[110]⟩,0⟩,⟨⟨#[108]⟩,0⟩,⟨⟨#[109]⟩,0⟩] else [⟨⟨#[108]⟩,0⟩,⟨⟨#[109]⟩,0⟩,⟨⟨#[110]⟩,0⟩]
def prF (a b c d:List Rw6) (t:Int):List Fn6:=
 if t % 2=0 then [⟨⟨#[103]⟩,0,blkL c⟩,⟨⟨#[102]⟩,0,blkL b⟩,⟨⟨#[109,97,105,110]⟩,0,blkL a⟩,⟨⟨#[104]⟩,0,blkL d⟩]
 else [⟨⟨#[109,97,105,110]⟩,0,blkL a⟩,⟨⟨#[102]⟩,0,blkL b⟩,⟨⟨#[103]⟩,0,blkL c⟩,⟨⟨#[104]⟩,0,blkL d⟩]
theorem Prog_ev (a b c d:List Rw6) (t:Int) (ha:rzL a≤1000000) (hb:rzL b≤1000000) (hc:rzL c≤1000000) (hd:rzL d≤1000000):EvS (fun k=>deadboltlaw6_Prog.f k a b c d t) (prV,prL t,prF a b c d t):=by
 have H: ∀ L:List De6,EvS (fun k=>deadboltlaw6_Prog.j0 k a b c d t prV L) (prV,L,prF a b c d t):=by
  intro L;refine EvS.succ ?_
  simp only [deadboltlaw6_Prog.j0];refine EvS.bind (Block_ev a ha) (EvS.bind (Block_ev b hb) (EvS.bind (Block_ev c hc) (EvS.bind (Block_ev d hd) (EvS.bind1 rfl (EvS.bind1 (within6_f t 2 (by decide) (by decide)) ?_)))));unfold prF
  by_cases h:t % 2=0
  ·refine EvS.if_pos h (EvS.if_pos (by show (2:Int)<((4:Nat):Int);decide) (EvS.if_pos (by show (0:Int)<((4:Nat):Int);decide) ?_));rw [if_pos h];exact .some_ _
  ·refine EvS.if_neg h ?_
   rw [if_neg h];exact .some_ _
 unfold deadboltlaw6_Prog.f
 refine EvS.bind1 rfl (EvS.bind1 (within6_f t 3 (by decide) (by decide)) ?_);unfold prL
 by_cases h:t % 3=0
 ·refine EvS.if_pos h ?_
  rw [if_pos h];exact H _
 ·refine EvS.if_neg h ?_
  rw [if_neg h];exact H _
theorem prV_ok:wfD prV:=by unfold prV wfD;decide
theorem prL_ok (t:Int):wfD (prL t):=by
 unfold prL wfD
 split<;>decide
theorem prF_ok (a b c d:List Rw6) (t:Int) (ha:rdL a≤12) (hb:rdL b≤12) (hc:rdL c≤12) (hd:rdL d≤12):wfF (prF a b c d t):=by
 have h: ∀ (n:ByteArray) (l:List Rw6),nameB n.data.toList=true→rdL l≤12→nameB n.data.toList=true∧wfL (blkL l)=true∧dpL (blkL l)≤19:=by
  intro n l h1 h2;have:=blkL_dp l;exact ⟨h1,blkL_wf l,by omega⟩
 intro f hf;unfold prF at hf
 split at hf<;>simp only [List.mem_cons,List.not_mem_nil,or_false] at hf<;>rcases hf with rfl|rfl|rfl|rfl<;>exact h _ _ (by simp only;decide) (by assumption)
end Go.Proofs.YtkmafndljelopaaDoor.Q
