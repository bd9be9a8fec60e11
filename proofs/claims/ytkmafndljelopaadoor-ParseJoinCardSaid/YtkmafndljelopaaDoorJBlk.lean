/- Chapter 6's Few, Block, Prog: what they come to, in plain words. -/
import Derived.Test.YtkmafndljelopaaDoorJEv
import Derived.Test.YtkmafndljelopaaDoorJRnd
import Derived.Test.YtkmafndljelopaaDoorJText6
import Derived.Test.YtkmafndljelopaaDoorJQ2
import Derived.Test.YtkmafndljelopaaDoorJQ7
import Derived.Test.YtkmafndljelopaaDoorJQ3
import Derived.Test.YtkmafndljelopaaDoorJQ4
namespace Go.Proofs.YtkmafndljelopaaDoor.Q
open Go.RowKit Go.Proofs.YtkmafndljelopaaDoorW.PrintWords Go.Proofs.YtkmafndljelopaaDoorW.PrintLast Go.Proofs.YtkmafndljelopaaDoorW.PrintMore Go.Proofs.YtkmafndljelopaaDoor.Lx
set_option linter.unusedVariables false
set_option linter.unusedSimpArgs false
abbrev Rw6:=S105
mutual
def rzS:Rw6→Nat
 |⟨_,_,A,B⟩=>1+rzL A+rzL B
def rzL:List Rw6→Nat
 |[]=>0
 |s::r=>rzS s+rzL r
end
mutual
def rdS:Rw6→Nat
 |⟨_,_,A,B⟩=>1+max (rdL A) (rdL B)
def rdL:List Rw6→Nat
 |[]=>0
 |s::r=>max (rdS s) (rdL r)
end
theorem TM (x:Rw6):rzS x=1+rzL x.f2+rzL x.f3:=by cases x;simp [rzS]
theorem apP (x:Rw6):rdS x=1+max (rdL x.f2) (rdL x.f3):=by cases x;simp [rdS]
theorem afG: ∀ {xs:List Rw6} {x:Rw6},x∈xs→rzS x≤rzL xs
 |s::r,x,h=>by
  rcases List.mem_cons.1 h with rfl|h
  ·simp only [rzL];omega
  ·have:=afG h;simp only [rzL];omega
theorem ab5: ∀ xs:List Rw6,xs.length≤rzL xs
 |[]=>by simp [rzL]
 |s::r=>by
  have:=ab5 r;have h:=TM s;simp only [rzL,List.length_cons];omega
theorem NS (l:List Rw6) (i:Nat) (h:i<l.length):dK l (i:Int)=l[i]:=by
 unfold dK
 rw [Int.toNat_natCast,List.getD_eq_getElem?_getD,List.getElem?_eq_getElem h,Option.getD_some]
theorem AN (d:Nat) (h:d≤1000000):wrap64 ((d:Int)+1)=((d+1:Nat):Int):=by rw [w64 (by omega)];omega
theorem azL (n v1 v2:Nat) (h1:n≤40) (h2:v1≤5000000) (h3:v2≤5000000):wrap64 ((wrap64 ((wrap64 ((n:Int)+1))+(v1:Int)))+(v2:Int))=((n+1+v1+v2:Nat):Int):=by
 rw [w64 (n:=(n:Int)+1) (by omega),w64 (n:=(n:Int)+1+v1) (by omega),w64 (by omega)];omega
theorem XE: ∀ (j:Nat) (l:List Rw6) (d:Nat),j+d=13→ ∃ v:Nat,EvS (fun k=>eB.f k l (d:Int)) (v:Int)∧v+41≤1041 * 2 ^ j∧(v≤40→rzL l=v∧d+rdL l≤12)
 |0,l,d,hd=>by
  refine ⟨1000,EvS.succ ?_,by decide,fun h=>by omega⟩;simp only [eB.f];exact EvS.if_pos (by omega) (.some_ _)
 |j+1,l,d,hd=>by
  have hp:2 ^ (j+1)=2 * 2 ^ j:=by rw [Nat.pow_succ];omega
  have aOH:2 ^ j≤2 ^ 12:=Nat.pow_le_pow_right (by decide) (by omega);have aH7:(2:Nat) ^ 12=4096:=by decide
  have aKW:1≤2 ^ j:=Nat.one_le_two_pow;have hlen: ∀ (L:Nat),l.length=L→L≤l.length:=fun L h=>by omega
  have H: ∀ (m i n:Nat),l.length - i=m→i≤l.length→n+41≤1041 * 2 ^ (j+1)→i≤n→
    ∃ v:Nat,EvS (fun k=>eB.l0 k l (d:Int) (n:Int) (i:Int)) (v:Int)∧v+41≤1041 * 2 ^ (j+1)∧n≤v∧(v≤40→n+rzL (l.drop i)=v∧d+rdL (l.drop i)≤12):=by
   intro m;induction m with
   |zero=>
    intro i n hm hi hn hin;obtain rfl:i=l.length:=by omega
    refine ⟨n,EvS.succ ?_,hn,Nat.le_refl _,fun h=>⟨by simp [rzL],by simp [rdL];omega⟩⟩;simp only [eB.l0];refine EvS.if_neg (by omega) (EvS.succ ?_);simp only [eB.j1];exact EvS.if_neg (by decide) (.some_ _)
   |succ m ih=>
    intro i n hm hi hn hin;have hlt:i<l.length:=by omega
    by_cases Z3:n≤40
    ·obtain ⟨v1,e1,b1,c1⟩:=XE j l[i].f2 (d+1) (by omega);obtain ⟨v2,e2,b2,c2⟩:=XE j l[i].f3 (d+1) (by omega);obtain ⟨v,e3,b3,g3,c3⟩:=ih (i+1) (n+1+v1+v2) (by omega) (by omega) (by omega) (by omega);refine ⟨v,EvS.succ ?_,b3,by omega,?_⟩
     ·simp only [eB.l0];refine EvS.if_pos (by omega) (EvS.succ ?_);simp only [eB.j1];refine EvS.if_pos (by simp;omega) (EvS.if_pos (by omega) (EvS.if_pos (by omega) ?_));rw [NS l i hlt,AN d (by omega)];refine EvS.bind e1 (EvS.bind e2 ?_);rw [azL n v1 v2 Z3 (by omega) (by omega),AN i (by omega)];exact e3
     ·intro hv;obtain ⟨q1,q2⟩:=c3 hv;obtain ⟨q3,q4⟩:=c1 (by omega);obtain ⟨q5,q6⟩:=c2 (by omega);have r1:=TM l[i];have r2:=apP l[i];rw [List.drop_eq_getElem_cons hlt,rzL,rdL];omega
    ·refine ⟨n,EvS.succ ?_,hn,Nat.le_refl _,fun h=>absurd h Z3⟩;simp only [eB.l0];refine EvS.if_pos (by omega) (EvS.succ ?_);simp only [eB.j1];exact EvS.if_neg (by simp;omega) (.some_ _)
  obtain ⟨v,e,b,_,c⟩:=H l.length 0 0 (by omega) (by omega) (by omega) (by omega);refine ⟨v,EvS.succ ?_,b,fun h=>?_⟩;·simp only [eB.f];exact EvS.if_neg (by omega) e
  ·have:=c h;simpa using this
theorem V6 (l:List Rw6): ∃ b:Bool,EvS (fun k=>dX.f k l) b∧(b=true→rzL l≤40∧rdL l≤12):=by
 obtain ⟨v,e,_,c⟩:=XE 13 l 0 rfl;refine ⟨decide ((v:Int)≤40),EvS.bind e (.some_ _),fun h=>?_⟩;have h1:=of_decide_eq_true h;obtain ⟨h2,h3⟩:=c (by omega);omega
def nmX:List ByteArray:= [(⟨#[120]⟩:ByteArray),(⟨#[121]⟩:ByteArray),(⟨#[122]⟩:ByteArray)]
def nmL:List ByteArray:= [(⟨#[108]⟩:ByteArray),(⟨#[109]⟩:ByteArray),(⟨#[110]⟩:ByteArray)]
def nmF:List ByteArray:= [(⟨#[102]⟩:ByteArray),(⟨#[103]⟩:ByteArray),(⟨#[104]⟩:ByteArray),(⟨#[109,97,105,110]⟩:ByteArray)]
def oneS (k n:Int) (A B:List St6):St6:=
 if k=1∨k=2 then ⟨k,0,rdOf ByteArray.empty nmX (n % 3),[],[]⟩
 else if k=3∨k=4 then ⟨k,0,rdOf ByteArray.empty nmL (n % 3),[],[]⟩
 else if k=5∨k=6 then ⟨k,0,rdOf ByteArray.empty nmF (n % 4),[],[]⟩
 else if k=7 then ⟨7,0,⟨#[]⟩,A,B⟩ else ⟨8,0,⟨#[]⟩,A,[]⟩
mutual
def blkS:Rw6→St6
 |⟨K,n,A,B⟩=>oneS (1+K % 8) n (blkL A) (blkL B)
def blkL:List Rw6→List St6
 |[]=>[]
 |s::r=>blkS s::blkL r
end
theorem yL (x:Rw6):blkS x=oneS (1+x.f0 % 8) x.f1 (blkL x.f2) (blkL x.f3):=by cases x;simp [blkS]
set_option maxHeartbeats 1000000 in
theorem AM (l:List Rw6) (hl:rzL l≤1000000):EvS (fun k=>bP.f k l) (blkL l):=by
 have hll:=ab5 l;have H: ∀ (m i:Nat) (acc:List St6),l.length - i=m→i≤l.length→acc.length=i→EvS (fun k=>bP.l0 k l acc (i:Int)) (acc++blkL (l.drop i)):=by
  intro m;induction m with
  |zero=>
   intro i acc hm hi ha;obtain rfl:i=l.length:=by omega
   refine EvS.succ ?_
   simp only [bP.l0];refine EvS.if_neg (by omega) ?_
   rw [List.drop_length,blkL,List.append_nil];exact .some_ _
  |succ m ih=>
   intro i acc hm hi ha;have hlt:i<l.length:=by omega
   have hmem:l[i]∈l:=List.getElem_mem hlt;have hz:=afG hmem;have iT:=TM l[i];have lC:SizeOf.sizeOf l[i].f2<SizeOf.sizeOf l:=by
    have h1:=List.sizeOf_lt_of_mem hmem;have h2:SizeOf.sizeOf l[i].f2<SizeOf.sizeOf l[i]:=by cases l[i];simp;omega
    omega
   have ajI:SizeOf.sizeOf l[i].f3<SizeOf.sizeOf l:=by
    have h1:=List.sizeOf_lt_of_mem hmem;have h2:SizeOf.sizeOf l[i].f3<SizeOf.sizeOf l[i]:=by cases l[i];simp;omega
    omega
   have QW:i≤1000000:=by omega
   have next: ∀ s:St6,s=blkS l[i]→EvS (fun k=>bP.l0 k l (acc++ [s]) (wrap64 ((i:Int)+1))) (acc++blkL (l.drop i)):=by
    rintro _ rfl
    rw [AN i QW,List.drop_eq_getElem_cons hlt,blkL];have:=ih (i+1) (acc++ [blkS l[i]]) (by omega) (by omega) (by simp;omega);rwa [List.append_assoc,List.singleton_append] at this
   refine EvS.succ ?_
   simp only [bP.l0];refine EvS.if_pos (by omega) (EvS.if_pos (by omega) ?_);rw [NS l i hlt];refine EvS.bind1 (xQ l[i].f0 8 (by decide) (by decide)) ?_
   rw [w64 (n:=1+l[i].f0 % 8) (by omega)];have mT:1≤1+l[i].f0 % 8:=by omega
   have xT:1+l[i].f0 % 8≤8:=by omega
   obtain ⟨kk,hkk⟩: ∃ kk,1+l[i].f0 % 8=kk:=⟨_,rfl⟩;rw [hkk] at mT xT ⊢;have hc:kk=1∨kk=2∨kk=3∨kk=4∨kk=5∨kk=6∨kk=7∨kk=8:=by omega
   rcases hc with rfl|rfl|rfl|rfl|rfl|rfl|rfl|rfl
   ·refine EvS.if_pos (by trivial) (EvS.succ ?_);simp only [bP.j1];refine EvS.if_pos (by decide) (EvS.bind1 rfl (EvS.bind1 (xQ _ 3 (by decide) (by decide)) (EvS.if_pos (by omega) (EvS.if_pos (by show _<((3:Nat):Int);omega) (EvS.if_pos (by omega) ?_)))));exact next _ (by rw [yL,hkk];rfl)
   ·refine EvS.if_neg (by decide) (EvS.succ ?_);simp only [bP.j1];refine EvS.if_pos (by decide) (EvS.bind1 rfl (EvS.bind1 (xQ _ 3 (by decide) (by decide)) (EvS.if_pos (by omega) (EvS.if_pos (by show _<((3:Nat):Int);omega) (EvS.if_pos (by omega) ?_)))));exact next _ (by rw [yL,hkk];rfl)
   ·refine EvS.if_neg (by decide) (EvS.succ ?_);simp only [bP.j1];refine EvS.if_neg (by decide) ?_
    refine EvS.if_pos (by trivial) (EvS.succ ?_);simp only [bP.j2];refine EvS.if_pos (by decide) (EvS.bind1 rfl (EvS.bind1 (xQ _ 3 (by decide) (by decide)) (EvS.if_pos (by omega) (EvS.if_pos (by show _<((3:Nat):Int);omega) (EvS.if_pos (by omega) ?_)))));exact next _ (by rw [yL,hkk];rfl)
   ·refine EvS.if_neg (by decide) (EvS.succ ?_);simp only [bP.j1];refine EvS.if_neg (by decide) ?_
    refine EvS.if_neg (by decide) (EvS.succ ?_);simp only [bP.j2];refine EvS.if_pos (by decide) (EvS.bind1 rfl (EvS.bind1 (xQ _ 3 (by decide) (by decide)) (EvS.if_pos (by omega) (EvS.if_pos (by show _<((3:Nat):Int);omega) (EvS.if_pos (by omega) ?_)))));exact next _ (by rw [yL,hkk];rfl)
   ·refine EvS.if_neg (by decide) (EvS.succ ?_);simp only [bP.j1];refine EvS.if_neg (by decide) ?_
    refine EvS.if_neg (by decide) (EvS.succ ?_);simp only [bP.j2];refine EvS.if_neg (by decide) ?_
    refine EvS.if_pos (by trivial) (EvS.succ ?_);simp only [bP.j3];refine EvS.if_pos (by decide) (EvS.bind1 rfl (EvS.bind1 (xQ _ 4 (by decide) (by decide)) (EvS.if_pos (by omega) (EvS.if_pos (by show _<((4:Nat):Int);omega) (EvS.if_pos (by omega) ?_)))));exact next _ (by rw [yL,hkk];rfl)
   ·refine EvS.if_neg (by decide) (EvS.succ ?_);simp only [bP.j1];refine EvS.if_neg (by decide) ?_
    refine EvS.if_neg (by decide) (EvS.succ ?_);simp only [bP.j2];refine EvS.if_neg (by decide) ?_
    refine EvS.if_neg (by decide) (EvS.succ ?_);simp only [bP.j3];refine EvS.if_pos (by decide) (EvS.bind1 rfl (EvS.bind1 (xQ _ 4 (by decide) (by decide)) (EvS.if_pos (by omega) (EvS.if_pos (by show _<((4:Nat):Int);omega) (EvS.if_pos (by omega) ?_)))));exact next _ (by rw [yL,hkk];rfl)
   ·refine EvS.if_neg (by decide) (EvS.succ ?_);simp only [bP.j1];refine EvS.if_neg (by decide) ?_
    refine EvS.if_neg (by decide) (EvS.succ ?_);simp only [bP.j2];refine EvS.if_neg (by decide) ?_
    refine EvS.if_neg (by decide) (EvS.succ ?_);simp only [bP.j3];refine EvS.if_neg (by decide) ?_
    refine EvS.if_pos (by trivial) (EvS.if_pos (by omega) (EvS.if_pos (by omega) ?_));rw [NS l i hlt];refine EvS.bind (AM l[i].f2 (by omega)) (EvS.bind (AM l[i].f3 (by omega)) (EvS.if_pos (by omega) ?_));exact next _ (by rw [yL,hkk];rfl)
   ·refine EvS.if_neg (by decide) (EvS.succ ?_);simp only [bP.j1];refine EvS.if_neg (by decide) ?_
    refine EvS.if_neg (by decide) (EvS.succ ?_);simp only [bP.j2];refine EvS.if_neg (by decide) ?_
    refine EvS.if_neg (by decide) (EvS.succ ?_);simp only [bP.j3];refine EvS.if_neg (by decide) ?_
    refine EvS.if_neg (by decide) (EvS.if_pos (by trivial) (EvS.if_pos (by omega) (EvS.if_pos (by omega) ?_)));rw [NS l i hlt];refine EvS.bind (AM l[i].f2 (by omega)) (EvS.if_pos (by omega) ?_);exact next _ (by rw [yL,hkk];rfl)
 refine EvS.succ ?_
 simp only [bP.f];have:=H l.length 0 [] (by omega) (by omega) rfl;rwa [List.drop_zero,List.nil_append] at this
termination_by SizeOf.sizeOf l
theorem axJ (n:Int):nameB (rdOf ByteArray.empty nmX (n % 3)).data.toList=true∧nameB (rdOf ByteArray.empty nmL (n % 3)).data.toList=true∧nameB (rdOf ByteArray.empty nmF (n % 4)).data.toList=true:=by
 have h3:n % 3=0∨n % 3=1∨n % 3=2:=by omega
 have h4:n % 4=0∨n % 4=1∨n % 4=2∨n % 4=3:=by omega
 refine ⟨?_,?_,?_⟩;·rcases h3 with h|h|h<;>rw [h]<;>decide
 ·rcases h3 with h|h|h<;>rw [h]<;>decide
 ·rcases h4 with h|h|h|h<;>rw [h]<;>decide
theorem at7 (n:Int):(rdOf ByteArray.empty nmX (n % 3)).data.toList.length≤6∧(rdOf ByteArray.empty nmL (n % 3)).data.toList.length≤6∧(rdOf ByteArray.empty nmF (n % 4)).data.toList.length≤6:=by
 have h3:n % 3=0∨n % 3=1∨n % 3=2:=by omega
 have h4:n % 4=0∨n % 4=1∨n % 4=2∨n % 4=3:=by omega
 refine ⟨?_,?_,?_⟩;·rcases h3 with h|h|h<;>rw [h]<;>decide
 ·rcases h3 with h|h|h<;>rw [h]<;>decide
 ·rcases h4 with h|h|h|h<;>rw [h]<;>decide
theorem SF {C:St6→Prop} (K n:Int) (A B:List St6)
  (h1: ∀ (k:Int) (nm:ByteArray),1≤k→k≤6→nameB nm.data.toList=true→nm.data.toList.length≤6→C ⟨k,0,nm,[],[]⟩) (h7:C ⟨7,0,⟨#[]⟩,A,B⟩) (h8:C ⟨8,0,⟨#[]⟩,A,[]⟩):C (oneS (1+K % 8) n A B):=by
 obtain ⟨a,b,c⟩:=axJ n;obtain ⟨a',b',c'⟩:=at7 n;unfold oneS
 split
 ·exact h1 _ _ (by omega) (by omega) a a'
 split
 ·exact h1 _ _ (by omega) (by omega) b b'
 split
 ·exact h1 _ _ (by omega) (by omega) c c'
 split
 ·exact h7
 ·exact h8
mutual
theorem avC: ∀ x:Rw6,wfS (blkS x)=true
 |⟨K,n,A,B⟩=>by
  rw [blkS];have hA:=GD A;have hB:=GD B;refine SF (C:=fun s=>wfS s=true) K n _ _ ?_ ?_ ?_
  ·intro k nm h1 h6 hn _;simp only [wfS];rw [if_neg (by omega),if_neg (by omega)];simp [h1,h6,hn]
  ·simp [wfS,hA,hB]
  ·simp [wfS,hA]
theorem GD: ∀ l:List Rw6,wfL (blkL l)=true
 |[]=>rfl
 |s::r=>by rw [blkL,wfL,avC s,GD r];rfl
end
mutual
theorem azI: ∀ x:Rw6,dpS (blkS x)≤rdS x
 |⟨K,n,A,B⟩=>by
  rw [blkS];have hA:=NT A;have hB:=NT B;refine SF (C:=fun s=>dpS s≤rdS ⟨K,n,A,B⟩) K n _ _ ?_ ?_ ?_
  ·intro k nm h1 h6 hn _;simp only [dpS,dpL,rdS];omega
  ·simp only [dpS,rdS];omega
  ·simp only [dpS,dpL,rdS];omega
theorem NT: ∀ l:List Rw6,dpL (blkL l)≤rdL l
 |[]=>Nat.le_refl _
 |s::r=>by
  have h1:=azI s;have h2:=NT r;rw [blkL,dpL,rdL];omega
end
def spT (ws:List ByteArray):List UInt8:=ws.flatMap fun w=>w.data.toList++ [32]
theorem xI (a b:List ByteArray):spT (a++b)=spT a++spT b:=by simp [spT]
theorem rZ (w:ByteArray) (b:List ByteArray):spT (w::b)=(w.data.toList++ [32])++spT b:=by simp [spT]
theorem NL (k:Int) (h0:1≤k) (h1:k≤8):(verbC k).data.toList.length≤6:=by
 obtain ⟨m,rfl⟩: ∃ m:Nat,k=m:=⟨k.toNat,by omega⟩;have hm:m<9:=by omega
 have hp:1≤m:=by omega
 clear h0 h1;revert m
 decide+kernel
mutual
theorem azU: ∀ x:Rw6,(stW (blkS x)).length≤6 * rzS x∧(spT (stW (blkS x))).length≤30 * rzS x
 |⟨K,n,A,B⟩=>by
  rw [blkS];obtain ⟨hA,hA'⟩:=O7 A;obtain ⟨hB,hB'⟩:=O7 B;have ho:openB.data.toList.length=1:=rfl;have hc:closeB.data.toList.length=1:=rfl;have he:elseT.data.toList.length=4:=rfl;refine SF (C:=fun s=>(stW s).length≤6 * rzS ⟨K,n,A,B⟩∧(spT (stW s)).length≤30 * rzS ⟨K,n,A,B⟩) K n _ _ ?_ ?_ ?_
  ·intro k nm h1 h6 hn hl;have hv:=NL k (by omega) (by omega);rw [uH];simp only
   rw [if_neg (by omega),if_neg (by omega)];simp only [rzS,spT,List.flatMap_cons,List.flatMap_nil,List.length_append,List.length_cons,List.length_nil];omega
  ·have hv:=NL 7 (by decide) (by decide);rw [uH];simp only [show ¬ (7:Int)=8 by decide,if_false,if_true];cases hb:(blkL B).isEmpty with
   |true=>
    simp only [if_true,rzS,blW,rZ,xI,List.append_nil,List.length_append,List.length_cons,List.length_nil,ho,hc,show spT []= [] from rfl];omega
   |false=>
    simp only [Bool.false_eq_true,if_false,rzS,blW,rZ,xI,List.length_append,List.length_cons,List.length_nil,ho,hc,he,show spT []= [] from rfl];omega
  ·have hv:=NL 8 (by decide) (by decide);rw [uH];simp only [if_true,rzS,blW,rZ,xI,List.length_append,List.length_cons,List.length_nil,ho,hc,show spT []= [] from rfl];omega
theorem O7: ∀ l:List Rw6,(lsW (blkL l)).length≤6 * rzL l∧(spT (lsW (blkL l))).length≤30 * rzL l
 |[]=>⟨by simp [blkL,lsW],by simp [blkL,lsW,spT]⟩
 |s::r=>by
  obtain ⟨h1,h2⟩:=azU s;obtain ⟨h3,h4⟩:=O7 r;rw [blkL,lsW,rzL,xI,List.length_append,List.length_append];omega
end
def prV:List De6:= [⟨⟨#[120]⟩,0⟩,⟨⟨#[121]⟩,0⟩,⟨⟨#[122]⟩,0⟩]
def prL (t:Int):List De6:=if t % 3=0 then [⟨⟨#[110]⟩,0⟩,⟨⟨#[108]⟩,0⟩,⟨⟨#[109]⟩,0⟩] else [⟨⟨#[108]⟩,0⟩,⟨⟨#[109]⟩,0⟩,⟨⟨#[110]⟩,0⟩]
def prF (a b c d:List Rw6) (t:Int):List Fn6:=
 if t % 2=0 then [⟨⟨#[103]⟩,0,blkL c⟩,⟨⟨#[102]⟩,0,blkL b⟩,⟨⟨#[109,97,105,110]⟩,0,blkL a⟩,⟨⟨#[104]⟩,0,blkL d⟩]
 else [⟨⟨#[109,97,105,110]⟩,0,blkL a⟩,⟨⟨#[102]⟩,0,blkL b⟩,⟨⟨#[103]⟩,0,blkL c⟩,⟨⟨#[104]⟩,0,blkL d⟩]
theorem axL (a b c d:List Rw6) (t:Int) (ha:rzL a≤1000000) (hb:rzL b≤1000000) (hc:rzL c≤1000000) (hd:rzL d≤1000000):EvS (fun k=>fR.f k a b c d t) (prV,prL t,prF a b c d t):=by
 have H: ∀ L:List De6,EvS (fun k=>fR.j0 k a b c d t prV L) (prV,L,prF a b c d t):=by
  intro L;refine EvS.succ ?_
  simp only [fR.j0];refine EvS.bind (AM a ha) (EvS.bind (AM b hb) (EvS.bind (AM c hc) (EvS.bind (AM d hd) (EvS.bind1 rfl (EvS.bind1 (xQ t 2 (by decide) (by decide)) ?_)))));unfold prF
  by_cases h:t % 2=0
  ·refine EvS.if_pos h (EvS.if_pos (by show (2:Int)<((4:Nat):Int);decide) (EvS.if_pos (by show (0:Int)<((4:Nat):Int);decide) ?_));rw [if_pos h];exact .some_ _
  ·refine EvS.if_neg h ?_
   rw [if_neg h];exact .some_ _
 unfold fR.f
 refine EvS.bind1 rfl (EvS.bind1 (xQ t 3 (by decide) (by decide)) ?_);unfold prL
 by_cases h:t % 3=0
 ·refine EvS.if_pos h ?_
  rw [if_pos h];exact H _
 ·refine EvS.if_neg h ?_
  rw [if_neg h];exact H _
theorem NC:wfD prV:=by unfold prV wfD;decide
theorem PN (t:Int):wfD (prL t):=by
 unfold prL wfD
 split<;>decide
theorem aw9 (a b c d:List Rw6) (t:Int) (ha:rdL a≤12) (hb:rdL b≤12) (hc:rdL c≤12) (hd:rdL d≤12):wfF (prF a b c d t):=by
 have h: ∀ (n:ByteArray) (l:List Rw6),nameB n.data.toList=true→rdL l≤12→nameB n.data.toList=true∧wfL (blkL l)=true∧dpL (blkL l)≤19:=by
  intro n l h1 h2;have:=NT l;exact ⟨h1,GD l,by omega⟩
 intro f hf;unfold prF at hf
 split at hf<;>simp only [List.mem_cons,List.not_mem_nil,or_false] at hf<;>rcases hf with rfl|rfl|rfl|rfl<;>exact h _ _ (by simp only;decide) (by assumption)
end Go.Proofs.YtkmafndljelopaaDoor.Q
