/- Round trip, in plain words: a program's text is split into its words, and read from them it is the same program again. No program in sight. -/
import Derived.Test.YtkmafndljelopaaDoorJLxTok
import Derived.Test.YtkmafndljelopaaDoorJPar3
import Derived.Test.YtkmafndljelopaaDoorJPar4
import Derived.Test.YtkmafndljelopaaDoorJTree
namespace Go.Proofs.YtkmafndljelopaaDoor.Q
open Go.RowKit Go.Proofs.YtkmafndljelopaaDoorW.PrintWords Go.Proofs.YtkmafndljelopaaDoorW.PrintLast Go.Proofs.YtkmafndljelopaaDoorW.PrintMore Go.Proofs.YtkmafndljelopaaDoor.Lx
set_option linter.unusedVariables false
set_option linter.unusedSimpArgs false
mutual
def wfS:St6→Bool
 |⟨k,_,n,A,B⟩=>if k=8 then n.data.toList== [] && (B.isEmpty && wfL A) else if k=7 then n.data.toList== [] && (wfL A && wfL B) else decide (1≤k) && (decide (k≤6) && (nameB n.data.toList && (A.isEmpty && B.isEmpty)))
def wfL:List St6→Bool
 |[]=>true
 |s::r=>wfS s && wfL r
end
mutual
def dpS:St6→Nat
 |⟨_,_,_,A,B⟩=>1+max (dpL A) (dpL B)
def dpL:List St6→Nat
 |[]=>0
 |s::r=>max (dpS s) (dpL r)
end
def key (t:Tok6):Int×List UInt8:=(t.f0,t.f2.data.toList)
def keyW (w:ByteArray):Int×List UInt8:=if w.data.toList= [123] then (2,[]) else if w.data.toList= [125] then (3,[]) else (1,w.data.toList)
theorem ak6:keyW openB=(2,[]):=rfl
theorem axY:keyW closeB=(3,[]):=rfl
theorem ND {w:ByteArray} (h:nameB w.data.toList=true):keyW w=(1,w.data.toList):=by
 have h1:w.data.toList≠ [123]:=fun e=>by rw [e] at h;exact absurd h (by decide)
 have h2:w.data.toList≠ [125]:=fun e=>by rw [e] at h;exact absurd h (by decide)
 unfold keyW
 rw [if_neg h1,if_neg h2]
theorem O3 {k:Int} (h0:1≤k) (h1:k≤8):keyW (verbC k)=(1,(verbC k).data.toList)∧kindN (verbC k)=k∧verbC k≠elseT:=by
 obtain ⟨n,rfl⟩: ∃ n:Nat,k=n:=⟨k.toNat,by omega⟩;have hn:n<9:=by omega
 have hp:1≤n:=by omega
 clear h0 h1;revert n
 decide+kernel
theorem sP {t:Tok6} {w:ByteArray} {l:List UInt8} (h:key t=keyW w) (hw:keyW w=(1,w.data.toList)):t.f0=1∧t.f2=w:=by
 rw [hw] at h;injection h with h1 h2
 exact ⟨h1,AY h2⟩
theorem aeY {t:Tok6} (h:key t=keyW openB):t.f0=2:=by rw [ak6] at h;injection h with h1 h2
theorem ae4 {t:Tok6} (h:key t=keyW closeB):t.f0=3∧t.f2.data.toList= []:=by rw [axY] at h;injection h with h1 h2;exact ⟨h1,h2⟩
theorem avL {b:ByteArray} (h:b.data.toList= []):b≠elseT:=fun e=>by rw [e] at h;exact absurd h (by decide)
theorem ayI {e:Int} {bl:List Tok6→Out (List St6)} {n:Nat} {d:Nat}
  (HB: ∀ (A:List St6) (o c:Tok6) (L R:List Tok6),wfL A=true→dpL A≤d→szL A<n→key o=keyW openB→key c=keyW closeB→L.map key=(lsW A).map keyW→ ∃ A',bl (o::(L++c::R))= .ok A' R∧sameL A A'=true)
  (s:St6) (hw:wfS s=true) (hd:dpS s≤d+1) (hn:szS s≤n) (L R:List Tok6) (hL:L.map key=(stW s).map keyW) (hR:(nx R e).f2≠elseT):
  ∃ s',stmtW e bl (L++R)= .ok s' R∧sameS s s'=true:=by
 obtain ⟨k,a,nm,A,B⟩:=s;have hsz:=uU ⟨k,a,nm,A,B⟩;simp only [dpS] at hd;simp only [wfS] at hw;rw [uH,List.map_cons] at hL;obtain ⟨t,L1,rfl,ht,mD⟩:=List.map_eq_cons_iff.1 hL;clear hL;simp only at mD ht hsz;have hk:1≤k∧k≤8:=by
  by_cases h8:k=8
  ·omega
  ·rw [if_neg h8] at hw;by_cases h7:k=7
   ·omega
   ·rw [if_neg h7] at hw;simp only [Bool.and_eq_true,decide_eq_true_eq] at hw;omega
 obtain ⟨azG,aqE,aME⟩:=O3 hk.1 hk.2;obtain ⟨asM,B8⟩:=sP (l:=[]) ht azG;have hkn:kindN (nx (t::L1++R) e).f2=k:=by
  show kindN t.f2=k
  rw [B8,aqE]
 have h1:(nx (t::L1++R) e).f0=1:=asM;unfold stmtW
 rw [if_neg (by rw [h1];decide),hkn,if_neg (by omega)];by_cases h6:k≤6
 ·rw [if_neg (by omega),if_neg (by omega)] at hw;simp only [Bool.and_eq_true,decide_eq_true_eq,List.isEmpty_iff] at hw;obtain ⟨_,_,hnm,rfl,rfl⟩:=hw;rw [if_neg (by omega),if_neg (by omega),List.map_cons,List.map_nil] at mD;obtain ⟨t2,L2,rfl,h2,aoD⟩:=List.map_eq_cons_iff.1 mD;obtain rfl:=List.map_eq_nil_iff.1 aoD;obtain ⟨h3,h4⟩:=sP (l:=[]) h2 (ND hnm);rw [if_pos h6];have e2:nx (t:: [t2]++R).tail e=t2:=rfl;rw [e2,h3,h4,if_pos ⟨rfl,hnm⟩];refine ⟨_,rfl,?_⟩;simp [sameS,sameL]
 ·rw [if_neg h6];have hdA:dpL A≤d:=by omega
  have hdB:dpL B≤d:=by omega
  by_cases h8:k=8
  ·rw [if_pos h8] at hw mD;simp only [Bool.and_eq_true,List.isEmpty_iff,beq_iff_eq] at hw;obtain ⟨hnm,rfl,hA⟩:=hw;simp only [blW,List.map_cons,List.map_append,List.map_nil] at mD;obtain ⟨o,L2,rfl,ho,oS⟩:=List.map_eq_cons_iff.1 mD;obtain ⟨LA,C,rfl,hLA,hC⟩:=List.map_eq_append_iff.1 oS;obtain ⟨c,C2,rfl,hc,WG⟩:=List.map_eq_cons_iff.1 hC;obtain rfl:=List.map_eq_nil_iff.1 WG;obtain ⟨A',hA',hs⟩:=HB A o c LA R hA hdA (by omega) ho hc hLA;have e1:(t::o::(LA++ [c])++R).tail=o::(LA++c::R):=by simp
   rw [e1,hA'];simp only
   rw [if_pos h8];refine ⟨_,rfl,?_⟩;subst h8;simp only [sameS,sameL,hs,Bool.and_true,beq_self_eq_true,Bool.true_and];show (nm.toList==ByteArray.toList ⟨#[]⟩)=true
   rw [AY (a:=nm) (b:=⟨#[]⟩) hnm];exact beq_self_eq_true _
  ·have h7:k=7:=by omega
   rw [if_neg h8,if_pos h7] at hw mD;simp only [Bool.and_eq_true,beq_iff_eq] at hw;obtain ⟨hnm,hA,hB⟩:=hw;have hnm':(nm.toList==ByteArray.toList ⟨#[]⟩)=true:=by rw [AY (a:=nm) (b:=⟨#[]⟩) hnm];exact beq_self_eq_true _
   rw [List.map_append] at mD;obtain ⟨LB,LE,rfl,hLB,hLE⟩:=List.map_eq_append_iff.1 mD;simp only [blW,List.map_cons,List.map_append,List.map_nil] at hLB;obtain ⟨o,L2,rfl,ho,oS⟩:=List.map_eq_cons_iff.1 hLB;obtain ⟨LA,C,rfl,hLA,hC⟩:=List.map_eq_append_iff.1 oS;obtain ⟨c,C2,rfl,hc,WG⟩:=List.map_eq_cons_iff.1 hC;obtain rfl:=List.map_eq_nil_iff.1 WG;obtain ⟨A',hA',hs⟩:=HB A o c LA (LE++R) hA hdA (by omega) ho hc hLA;have e1:(t::(o::(LA++ [c])++LE)++R).tail=o::(LA++c::(LE++R)):=by simp
   rw [e1,hA'];simp only
   rw [if_neg h8];by_cases hBe:B= []
   ·subst hBe;simp only [List.isEmpty_nil,if_true,List.map_nil] at hLE;obtain rfl:=List.map_eq_nil_iff.1 hLE;rw [List.nil_append,if_neg hR];refine ⟨_,rfl,?_⟩;subst h7;simp only [sameS,sameL,hs,hnm',Bool.and_true,beq_self_eq_true,Bool.true_and]
   ·have hBe':B.isEmpty=false:=by cases B<;>simp_all
    simp only [hBe',blW,Bool.false_eq_true,if_false,List.map_cons,List.map_append,List.map_nil] at hLE;obtain ⟨te,L3,rfl,hte,CC⟩:=List.map_eq_cons_iff.1 hLE;obtain ⟨o2,L4,rfl,iB,CK⟩:=List.map_eq_cons_iff.1 CC;obtain ⟨PH,D,rfl,asA,hD⟩:=List.map_eq_append_iff.1 CK;obtain ⟨c2,D2,rfl,nW,aAG⟩:=List.map_eq_cons_iff.1 hD;obtain rfl:=List.map_eq_nil_iff.1 aAG;obtain ⟨M0,GW⟩:=sP (l:=[]) hte rfl;obtain ⟨B',hB',hsB⟩:=HB B o2 c2 PH R hB hdB (by omega) iB nW asA;have e3:nx (te::o2::(PH++ [c2])++R) e=te:=rfl;have e4:(te::o2::(PH++ [c2])++R).tail=o2::(PH++c2::R):=by simp
    rw [e3,GW,if_pos rfl,e4,hB'];refine ⟨_,rfl,?_⟩;subst h7;simp only [sameS,hs,hsB,hnm',Bool.and_true,beq_self_eq_true,Bool.true_and]
theorem X4 (e:Int): ∀ (n:Nat) (l:List St6) (d:Nat) (L R:List Tok6) (c:Tok6),wfL l=true→d+dpL l≤20→szL l<n→key c=keyW closeB→L.map key=(lsW l).map keyW→
  ∃ A,stmtsP e n (d:Int) (L++c::R)= .ok A R∧sameL l A=true
 |0,_,_,_,_,_,_,_,h,_,_=>absurd h (by omega)
 |n+1,[],d,L,R,c,_,_,_,hc,hL=>by
  obtain rfl:=List.map_eq_nil_iff.1 hL;refine ⟨[],?_,rfl⟩;simp only [stmtsP,List.nil_append];exact if_pos (ae4 hc).1
 |n+1,s::r,d,L,R,c,hw,hd,hn,hc,hL=>by
  simp only [wfL,Bool.and_eq_true] at hw;simp only [dpL] at hd;simp only [szL] at hn;have lC:=uU s;rw [lsW,List.map_append] at hL;obtain ⟨Ls,Lr,rfl,hLs,hLr⟩:=List.map_eq_append_iff.1 hL;have hhead: ∃ t Lt,Ls=t::Lt∧t.f0=1:=by
   rw [uH,List.map_cons] at hLs;obtain ⟨t,Lt,rfl,ht,_⟩:=List.map_eq_cons_iff.1 hLs;refine ⟨t,Lt,rfl,?_⟩;have hk:1≤s.f0∧s.f0≤8:=by
    obtain ⟨k,a,nm,A,B⟩:=s;have qT:=hw.1;simp only [wfS] at qT;show 1≤k∧k≤8
    by_cases h8:k=8
    ·omega
    ·rw [if_neg h8] at qT;by_cases h7:k=7
     ·omega
     ·rw [if_neg h7] at qT;simp only [Bool.and_eq_true,decide_eq_true_eq] at qT;omega
   exact (sP (l:=[]) ht (O3 hk.1 hk.2).1).1
  have hnot:(nx (Lr++c::R) e).f2≠elseT:=by
   cases r with
   |nil=>
    obtain rfl:=List.map_eq_nil_iff.1 hLr;exact avL (ae4 hc).2
   |cons s2 r2=>
    rw [lsW,List.map_append] at hLr;obtain ⟨La,Lb,rfl,hLa,_⟩:=List.map_eq_append_iff.1 hLr;rw [uH,List.map_cons] at hLa;obtain ⟨t,Lt,rfl,ht,_⟩:=List.map_eq_cons_iff.1 hLa;have SJ:=hw.2;simp only [wfL,Bool.and_eq_true] at SJ;have hk:1≤s2.f0∧s2.f0≤8:=by
     obtain ⟨k,a,nm,A,B⟩:=s2;have qT:=SJ.1;simp only [wfS] at qT;show 1≤k∧k≤8
     by_cases h8:k=8
     ·omega
     ·rw [if_neg h8] at qT;by_cases h7:k=7
      ·omega
      ·rw [if_neg h7] at qT;simp only [Bool.and_eq_true,decide_eq_true_eq] at qT;omega
    show t.f2≠elseT
    rw [(sP (l:=[]) ht (O3 hk.1 hk.2).1).2];exact (O3 hk.1 hk.2).2.2
  have HB: ∀ (A:List St6) (o c:Tok6) (L R:List Tok6),wfL A=true→dpL A≤19 - d→szL A<n→key o=keyW openB→key c=keyW closeB→L.map key=(lsW A).map keyW→ ∃ A',blockW e (stmtsP e n) (d:Int) (o::(L++c::R))= .ok A' R∧sameL A A'=true∨dpL A+d>19:=by
   intro A o c L R hA hdA hnA ho hc hL;by_cases hlt:dpL A+d>19
   ·exact ⟨[],.inr hlt⟩
   ·obtain ⟨A',h1,h2⟩:=X4 e n A (d+1) L R c hA (by omega) hnA hc hL;refine ⟨A',.inl ⟨?_,h2⟩⟩;unfold blockW
    rw [if_neg (by rw [show (nx (o::(L++c::R)) e)=o from rfl,aeY ho];decide),if_neg (by omega)];exact h1
  have aiL:1≤dpS s:=by cases s;simp only [dpS];omega
  obtain ⟨s',hs',hss⟩:=ayI (e:=e) (bl:=blockW e (stmtsP e n) (d:Int)) (n:=n) (d:=19 - d) (fun A o c L R h1 h2 h3 h4 h5 h6=>by
   obtain ⟨A',h⟩:=HB A o c L R h1 h2 h3 h4 h5 h6;rcases h with h|h
   ·exact ⟨A',h⟩
   ·omega) s hw.1 (by omega) (by omega) Ls (Lr++c::R) hLs hnot
  obtain ⟨A,hA,hsA⟩:=X4 e n r d Lr R c hw.2 (by omega) (by omega) hc hLr;refine ⟨s'::A,?_,by simp only [sameL,hss,hsA,Bool.and_self]⟩;obtain ⟨t,Lt,rfl,ht⟩:=hhead;simp only [stmtsP];rw [if_neg (by show t.f0≠3;rw [ht];decide),List.append_assoc,hs'];simp only [thenS,hA]
def wfD (l:List De6):Prop:= ∀ d∈l,nameB d.f0.data.toList=true
def wfF (l:List Fn6):Prop:= ∀ f∈l,nameB f.f0.data.toList=true∧wfL f.f2=true∧dpL f.f2≤19
def dW (t:ByteArray) (l:List De6):List ByteArray:=l.flatMap fun d=> [t,d.f0]
def fW (l:List Fn6):List ByteArray:=l.flatMap fun f=>funcT::f.f0::blW f.f2
def progW (vs ls:List De6) (fs:List Fn6):List ByteArray:=dW varT vs++(dW lockT ls++fW fs)
theorem MM (e:Int) (N n:Nat): ∀ (vs:List De6) (L R:List Tok6) (p:P6),wfD vs→L.map key=(dW varT vs).map keyW→
  ∃ vs',progP e N (vs.length+n) (L++R) p=progP e N n R ⟨p.vs++vs',p.ls,p.fs⟩∧eqAll sameD vs vs'=true
 |[],L,R,p,_,hL=>by
  obtain rfl:=List.map_eq_nil_iff.1 hL;exact ⟨[],by simp,rfl⟩
 |d::r,L,R,p,hw,hL=>by
  simp only [dW,List.flatMap_cons,List.cons_append,List.nil_append,List.map_cons] at hL;obtain ⟨t,L1,rfl,ht,mD⟩:=List.map_eq_cons_iff.1 hL;obtain ⟨t2,L2,rfl,B8,oS⟩:=List.map_eq_cons_iff.1 mD;have hn:=hw d (by simp);obtain ⟨h1,h2⟩:=sP (l:=[]) ht (show keyW varT=(1,varT.data.toList) from rfl);obtain ⟨h3,h4⟩:=sP (l:=[]) B8 (ND hn);obtain ⟨vs',h5,h6⟩:=MM e N n r L2 R ⟨p.vs++ [⟨d.f0,t.f1⟩],p.ls,p.fs⟩ (fun x hx=>hw x (by simp [hx])) oS;refine ⟨⟨d.f0,t.f1⟩::vs',?_,by simp [eqAll,sameD,h6]⟩;rw [List.length_cons,Nat.add_right_comm,List.cons_append];simp only [progP];have hd:declW e (blockW e (stmtsP e N) 0) (t::(t2::L2++R)) p= .ok ⟨p.vs++ [⟨d.f0,t.f1⟩],p.ls,p.fs⟩ (L2++R):=by
   unfold declW
   rw [if_pos (show (nx (t::(t2::L2++R)) e).f2=varT from h2)];unfold nameW
   have e2:nx (t::(t2::L2++R)).tail e=t2:=rfl;rw [e2,h3,h4,if_pos ⟨rfl,hn⟩];rfl
  rw [hd];simp only
  rw [h5];simp
theorem PV (e:Int) (N n:Nat): ∀ (vs:List De6) (L R:List Tok6) (p:P6),wfD vs→L.map key=(dW lockT vs).map keyW→
  ∃ vs',progP e N (vs.length+n) (L++R) p=progP e N n R ⟨p.vs,p.ls++vs',p.fs⟩∧eqAll sameD vs vs'=true
 |[],L,R,p,_,hL=>by
  obtain rfl:=List.map_eq_nil_iff.1 hL;exact ⟨[],by simp,rfl⟩
 |d::r,L,R,p,hw,hL=>by
  simp only [dW,List.flatMap_cons,List.cons_append,List.nil_append,List.map_cons] at hL;obtain ⟨t,L1,rfl,ht,mD⟩:=List.map_eq_cons_iff.1 hL;obtain ⟨t2,L2,rfl,B8,oS⟩:=List.map_eq_cons_iff.1 mD;have hn:=hw d (by simp);obtain ⟨h1,h2⟩:=sP (l:=[]) ht (show keyW lockT=(1,lockT.data.toList) from rfl);obtain ⟨h3,h4⟩:=sP (l:=[]) B8 (ND hn);obtain ⟨vs',h5,h6⟩:=PV e N n r L2 R ⟨p.vs,p.ls++ [⟨d.f0,t.f1⟩],p.fs⟩ (fun x hx=>hw x (by simp [hx])) oS;refine ⟨⟨d.f0,t.f1⟩::vs',?_,by simp [eqAll,sameD,h6]⟩;rw [List.length_cons,Nat.add_right_comm,List.cons_append];simp only [progP];have hd:declW e (blockW e (stmtsP e N) 0) (t::(t2::L2++R)) p= .ok ⟨p.vs,p.ls++ [⟨d.f0,t.f1⟩],p.fs⟩ (L2++R):=by
   unfold declW
   have e1:(nx (t::(t2::L2++R)) e).f2=lockT:=h2;rw [e1,if_neg (by decide),if_pos rfl];unfold nameW
   have e2:nx (t::(t2::L2++R)).tail e=t2:=rfl;rw [e2,h3,h4,if_pos ⟨rfl,hn⟩];rfl
  rw [hd];simp only
  rw [h5];simp
theorem MJ (e:Int) (N n:Nat): ∀ (fs:List Fn6) (L R:List Tok6) (p:P6),wfF fs→(∀ f∈fs,szL f.f2<N)→L.map key=(fW fs).map keyW→
  ∃ fs',progP e N (fs.length+n) (L++R) p=progP e N n R ⟨p.vs,p.ls,p.fs++fs'⟩∧eqAll sameF fs fs'=true
 |[],L,R,p,_,_,hL=>by
  obtain rfl:=List.map_eq_nil_iff.1 hL;exact ⟨[],by simp,rfl⟩
 |f::r,L,R,p,hw,hN,hL=>by
  simp only [fW,List.flatMap_cons,List.cons_append,List.nil_append,List.map_cons,List.map_append,blW,List.append_assoc] at hL;obtain ⟨t,L1,rfl,ht,mD⟩:=List.map_eq_cons_iff.1 hL;obtain ⟨t2,L2,rfl,B8,oS⟩:=List.map_eq_cons_iff.1 mD;obtain ⟨o,L3,rfl,ho,CC⟩:=List.map_eq_cons_iff.1 oS;obtain ⟨LA,L4,rfl,hLA,CK⟩:=List.map_eq_append_iff.1 CC;obtain ⟨c,L5,rfl,hc,Y3⟩:=List.map_eq_cons_iff.1 CK;obtain ⟨hn,hwf,hdp⟩:=hw f (by simp);obtain ⟨h1,h2⟩:=sP (l:=[]) ht (show keyW funcT=(1,funcT.data.toList) from rfl);obtain ⟨h3,h4⟩:=sP (l:=[]) B8 (ND hn);obtain ⟨A,hA,hsA⟩:=X4 e N f.f2 1 LA (L5++R) c hwf (by omega) (hN f (by simp)) hc hLA;obtain ⟨fs',h5,h6⟩:=MJ e N n r L5 R ⟨p.vs,p.ls,p.fs++ [⟨f.f0,t.f1,A⟩]⟩ (fun x hx=>hw x (by simp [hx])) (fun x hx=>hN x (by simp [hx])) Y3;refine ⟨⟨f.f0,t.f1,A⟩::fs',?_,by simp [eqAll,sameF,h6,hsA]⟩;rw [List.length_cons,Nat.add_right_comm,List.cons_append];simp only [progP];have hd:declW e (blockW e (stmtsP e N) 0) (t::(t2::o::(LA++c::L5)++R)) p= .ok ⟨p.vs,p.ls,p.fs++ [⟨f.f0,t.f1,A⟩]⟩ (L5++R):=by
   unfold declW
   have e1:(nx (t::(t2::o::(LA++c::L5)++R)) e).f2=funcT:=h2;rw [e1,if_neg (by decide),if_neg (by decide),if_pos rfl];unfold nameW
   have e2:nx (t::(t2::o::(LA++c::L5)++R)).tail e=t2:=rfl;have e3:(t::(t2::o::(LA++c::L5)++R)).tail.tail=o::(LA++c::(L5++R)):=by simp
   rw [e2,h3,h4,if_pos ⟨rfl,hn⟩,e3];have hb:blockW e (stmtsP e N) 0 (o::(LA++c::(L5++R)))= .ok A (L5++R):=by
    unfold blockW
    rw [if_neg (by rw [show (nx (o::(LA++c::(L5++R))) e)=o from rfl,aeY ho];decide),if_neg (by decide)];exact hA
   simp only [hb];rfl
  rw [hd];simp only
  rw [h5];simp
theorem agY (l:List St6) (hw:wfL l=true):szL l≤(lsW l).length:=by
 have H: ∀ n,(∀ s:St6,wfS s=true→szS s≤n→szS s≤(stW s).length)∧(∀ l:List St6,wfL l=true→szL l≤n→szL l≤(lsW l).length):=by
  intro n;induction n with
  |zero=>
   refine ⟨fun s _ h=>by rw [uU] at h;omega,fun l _ h=>by omega⟩
  |succ n ih=>
   have hS: ∀ s:St6,wfS s=true→szS s≤n+1→szS s≤(stW s).length:=by
    intro s hw h;obtain ⟨k,a,nm,A,B⟩:=s;rw [uU] at h ⊢;rw [uH];simp only at h ⊢;simp only [wfS] at hw;by_cases h8:k=8
    ·rw [if_pos h8] at hw ⊢;simp only [Bool.and_eq_true,List.isEmpty_iff,beq_iff_eq] at hw;obtain ⟨_,rfl,hA⟩:=hw;have h1:=ih.2 A hA (by omega);simp only [blW,szL,List.length_cons,List.length_append,List.length_nil];omega
    ·rw [if_neg h8] at hw ⊢;by_cases h7:k=7
     ·rw [if_pos h7] at hw ⊢;simp only [Bool.and_eq_true,beq_iff_eq] at hw;have h1:=ih.2 A hw.2.1 (by omega);have h2:=ih.2 B hw.2.2 (by omega);cases B with
      |nil=>
       simp only [blW,szL,List.isEmpty_nil,if_true,List.length_cons,List.length_append,List.length_nil];omega
      |cons b B=>
       simp only [blW,List.isEmpty_cons,Bool.false_eq_true,if_false,List.length_cons,List.length_append,List.length_nil];omega
     ·rw [if_neg h7] at hw ⊢;simp only [Bool.and_eq_true,decide_eq_true_eq,List.isEmpty_iff] at hw;obtain ⟨_,_,_,rfl,rfl⟩:=hw;simp [szL]
   refine ⟨hS,fun l hw h=>?_⟩;induction l with
   |nil=>simp [szL]
   |cons s r iH=>
    simp only [wfL,Bool.and_eq_true] at hw;simp only [szL] at h;have h1:=hS s hw.1 (by omega);have h2:=iH hw.2 (by omega);simp only [szL,lsW,List.length_append];omega
 exact (H _).2 l hw (Nat.le_refl _)
theorem apD (e:Int) (vs ls:List De6) (fs:List Fn6) (L:List Tok6) (hv:wfD vs) (hl:wfD ls) (hf:wfF fs) (hL:L.map key=(progW vs ls fs).map keyW):
  ∃ vs' ls' fs',progP e L.length (L.length+1) L ⟨[],[],[]⟩= .ok ⟨vs',ls',fs'⟩ []∧sameP vs ls fs vs' ls' fs'=true:=by
 have hlen:L.length=(progW vs ls fs).length:=by have:=congrArg List.length hL;simpa using this
 have hdW: ∀ (t:ByteArray) (l:List De6),(dW t l).length=2 * l.length:=by
  intro t l;induction l with
  |nil=>rfl
  |cons a r ih=>simp only [dW,List.flatMap_cons,List.length_append,List.length_cons,List.length_nil] at ih ⊢;omega
 have hfW: ∀ (l:List Fn6),4 * l.length+(l.map fun f=>(lsW f.f2).length).sum=(fW l).length:=by
  intro l;induction l with
  |nil=>rfl
  |cons a r ih=>simp only [fW,List.flatMap_cons,List.length_append,List.length_cons,List.length_nil,List.map_cons,List.sum_cons,blW] at ih ⊢;omega
 have h1:=hdW varT vs;have h2:=hdW lockT ls;have h3:=hfW fs;have h4:L.length=(dW varT vs).length+((dW lockT ls).length+(fW fs).length):=by rw [hlen];simp [progW]
 have hN: ∀ f∈fs,szL f.f2<L.length:=by
  intro f hm;have h5:=agY f.f2 (hf f hm).2.1;have h6: ∀ (l:List Fn6),f∈l→(lsW f.f2).length+l.length≤(l.map fun f=>(lsW f.f2).length).sum+l.length:=by
   intro l;induction l with
   |nil=>simp
   |cons a r ih=>
    intro hm;rcases List.mem_cons.1 hm with rfl|hm
    ·simp only [List.map_cons,List.sum_cons];omega
    ·have:=ih hm;simp only [List.map_cons,List.sum_cons,List.length_cons];omega
  have h7:=h6 fs hm;have h8:0<fs.length:=List.length_pos_of_mem hm;omega
 unfold progW at hL
 rw [List.map_append,List.map_append] at hL;obtain ⟨L1,L2,rfl,mD,oS⟩:=List.map_eq_append_iff.1 hL;obtain ⟨L3,L4,rfl,CC,CK⟩:=List.map_eq_append_iff.1 oS;have hlen':(L1++(L3++L4)).length+1=vs.length+(ls.length+(fs.length+((L1++(L3++L4)).length+1 - vs.length - ls.length - fs.length))):=by omega
 generalize (L1++(L3++L4)).length=N at hlen' hN h4 hlen;rw [hlen'];obtain ⟨m,hm⟩: ∃ m,N+1 - vs.length - ls.length - fs.length=m+1:=⟨N - vs.length - ls.length - fs.length,by omega⟩;rw [hm];obtain ⟨vs',e1,s1⟩:=MM e N (ls.length+(fs.length+(m+1))) vs L1 (L3++L4) ⟨[],[],[]⟩ hv mD;obtain ⟨ls',e2,s2⟩:=PV e N (fs.length+(m+1)) ls L3 L4 ⟨[]++vs',[],[]⟩ hl CC;obtain ⟨fs',e3,s3⟩:=MJ e N (m+1) fs L4 [] ⟨[]++vs',[]++ls',[]⟩ hf hN CK;rw [e1,e2];rw [List.append_nil] at e3;rw [e3];exact ⟨vs',ls',fs',by simp [progP],by simp [sameP,s1,s2,s3]⟩
def ptext (ps:List (ByteArray×List UInt8)):List UInt8:=ps.flatMap fun p=>p.1.data.toList++p.2
def wTk (w:ByteArray) (i:Nat):Tk:=if w.data.toList= [123] then ⟨2,i,[]⟩ else if w.data.toList= [125] then ⟨3,i,[]⟩ else ⟨1,i,w.data.toList⟩
def ptoks:Nat→List (ByteArray×List UInt8)→List Tk
 |_,[]=>[]
 |i,p::r=>wTk p.1 i::ptoks (i+p.1.data.toList.length+p.2.length) r
def wordB (w:ByteArray):Bool:=w.data.toList== [123]||(w.data.toList== [125]||(match w.data.toList with|[]=>false|c::r=>letterB c && r.all signB))
def pieceOk (p:ByteArray×List UInt8):Prop:=wordB p.1=true∧p.2≠ []∧ ∀ c∈p.2,blankB c=true
theorem alG (w:ByteArray) (i:Nat):key (mkTok (wTk w i))=keyW w:=by
 unfold wTk keyW
 split
 ·rfl
 ·split
  ·rfl
  ·rfl
theorem VZ: ∀ (ps:List (ByteArray×List UInt8)) (i:Nat),((ptoks i ps).map mkTok).map key=(ps.map (·.1)).map keyW
 |[],i=>rfl
 |p::r,i=>by simp only [ptoks,List.map_cons,alG,VZ r]
theorem aa3 {c:UInt8} (h:blankB c=true):signB c=false:=by
 simp only [blankB,Bool.or_eq_true,beq_iff_eq] at h;rcases h with (rfl|rfl)|rfl<;>rfl
theorem adR: ∀ (l:List UInt8) (i:Nat),(∀ c∈l,blankB c=true)→lx l i 0= .ok []
 |[],i,_=>rfl
 |c::r,i,h=>by
  rw [lx,if_pos (.inr (h c (by simp)))];exact adR r (i+1) fun x hx=>h x (by simp [hx])
theorem awR (w:ByteArray) (hw:wordB w=true) (i:Nat):lx w.data.toList i 0= .ok [wTk w i]:=by
 unfold wTk
 unfold wordB at hw
 generalize w.data.toList=l at hw ⊢;by_cases h1:l= [123]
 ·subst h1;rw [if_pos rfl];simp [lx,blankB,Res.cons]
 rw [if_neg h1];by_cases h2:l= [125]
 ·subst h2;rw [if_pos rfl];simp [lx,blankB,Res.cons]
 rw [if_neg h2];cases l with
 |nil=>simp at hw
 |cons c r=>
  simp only [Bool.or_eq_true,beq_iff_eq,h1,h2,false_or,Bool.and_eq_true] at hw;obtain ⟨hb,h3,h4⟩:=aAA c hw.1;have hs:(c::r).all signB=true:=by simp [signB,hw.1,hw.2]
  have hrow:=aaJ (c::r) hs;rw [lx,if_neg (by simp [hb]),if_neg h3,if_neg h4,if_pos hw.1,hrow,abR r _ _ (by simp only [List.length_cons];omega),List.take_length];rfl
theorem Y5: ∀ (ps:List (ByteArray×List UInt8)) (i:Nat),(∀ p∈ps,pieceOk p)→lx (ptext ps) i 0= .ok (ptoks i ps)
 |[],i,_=>rfl
 |p::r,i,h=>by
  obtain ⟨hw,hn,hb⟩:=h p (by simp);have ih:=Y5 r (i+p.1.data.toList.length+p.2.length) fun x hx=>h x (by simp [hx])
  have e:ptext (p::r)=p.1.data.toList++(p.2++ptext r):=by simp [ptext]
  have arZ:apart p.1.data.toList (p.2++ptext r):=by
   cases hp:p.2 with
   |nil=>exact absurd hp hn
   |cons c q=>exact au5 (y:=c) (by simp) (aa3 (hb c (by simp [hp])))
  have ar7:apart p.2 (ptext r):=by
   have:p.2.getLast? =some (p.2.getLast hn):=List.getLast?_eq_some_getLast hn;exact azZ this (aa3 (hb _ (List.getLast_mem hn)))
  rw [e,XV _ _ _ _ arZ (by omega),awR p.1 hw,XV _ _ _ _ ar7 (by omega),adR p.2 _ hb,ih];rfl
def pcs:List ByteArray→List UInt8→List (ByteArray×List UInt8)
 |[],_=>[]
 |[w],z=>[(w,z)]
 |w::v::r,z=>(w,[32])::pcs (v::r) z
theorem X0: ∀ (ws:List ByteArray) (z:List UInt8),(pcs ws z).map (·.1)=ws
 |[],_=>rfl
 |[w],_=>rfl
 |w::v::r,z=>by simp only [pcs,List.map_cons,X0 (v::r) z]
theorem vX (a b:List UInt8) (r:List (List UInt8)):Lib.join (a::b::r) [32]=a++([32]++Lib.join (b::r) [32]):=by
 simp [Lib.join,List.intercalate]
theorem UI: ∀ (ws:List ByteArray) (z:List UInt8),ws≠ []→ptext (pcs ws z)=Lib.join (ws.map (·.data.toList)) [32]++z
 |[],_,h=>absurd rfl h
 |[w],z,_=>by simp [pcs,ptext,Lib.join,List.intercalate]
 |w::v::r,z,_=>by
  have ih:=UI (v::r) z (by simp);have e:ptext (pcs (w::v::r) z)=(w.data.toList++ [32])++ptext (pcs (v::r) z):=by simp [pcs,ptext]
  rw [e,ih];simp only [List.map_cons];rw [vX];simp
theorem aiF: ∀ (ws:List ByteArray) (z:List UInt8),∀ p∈pcs ws z,p.2= [32]∨p.2=z
 |[],_,p,h=>by simp [pcs] at h
 |[w],z,p,h=>by simp only [pcs,List.mem_singleton] at h;subst h;exact .inr rfl
 |w::v::r,z,p,h=>by
  simp only [pcs,List.mem_cons] at h;rcases h with rfl|h
  ·exact .inl rfl
  ·exact aiF (v::r) z p (by simpa using h)
def dP (t:ByteArray) (l:List De6):List (ByteArray×List UInt8):=l.flatMap fun d=>pcs [t,d.f0] [10]
def fP (l:List Fn6):List (ByteArray×List UInt8):=l.flatMap fun f=>pcs (funcT::f.f0::blW f.f2) [10]
def progPs (vs ls:List De6) (fs:List Fn6):List (ByteArray×List UInt8):=dP varT vs++(dP lockT ls++fP fs)
theorem II (a b:List (ByteArray×List UInt8)):ptext (a++b)=ptext a++ptext b:=by simp [ptext]
theorem azN (f:Fn6):funcL f=ptext (pcs (funcT::f.f0::blW f.f2) [10]):=by
 rw [UI _ _ (by simp)];unfold funcL lineL bodyL blW
 simp only [List.map_cons,List.map_nil];rw [vX,vX,vX,vX];simp [Lib.join,List.intercalate]
theorem PD (vs ls:List De6) (fs:List Fn6):textL vs ls fs=ptext (progPs vs ls fs):=by
 have h1: ∀ (t:ByteArray) (l:List De6),l.flatMap (declL t)=ptext (dP t l):=by
  intro t l;induction l with
  |nil=>rfl
  |cons a r ih=>
   simp only [dP,List.flatMap_cons] at ih ⊢;rw [II,← ih,UI _ _ (by simp)];rfl
 have h2: ∀ l:List Fn6,l.flatMap funcL=ptext (fP l):=by
  intro l;induction l with
  |nil=>rfl
  |cons a r ih=>
   simp only [fP,List.flatMap_cons] at ih ⊢;rw [II,← ih,azN]
 unfold textL progPs
 rw [II,II,h1,h1,h2]
theorem PJ (vs ls:List De6) (fs:List Fn6):(progPs vs ls fs).map (·.1)=progW vs ls fs:=by
 have h1: ∀ (t:ByteArray) (l:List De6),(dP t l).map (·.1)=dW t l:=by
  intro t l;induction l with
  |nil=>rfl
  |cons a r ih=>simp only [dP,dW,List.flatMap_cons,List.map_append,X0] at ih ⊢;rw [ih]
 have h2: ∀ l:List Fn6,(fP l).map (·.1)=fW l:=by
  intro l;induction l with
  |nil=>rfl
  |cons a r ih=>simp only [fP,fW,List.flatMap_cons,List.map_append,X0] at ih ⊢;rw [ih]
 simp only [progPs,progW,List.map_append,h1,h2]
theorem NG {w:ByteArray} (h:nameB w.data.toList=true):wordB w=true:=by
 unfold wordB
 generalize w.data.toList=l at h ⊢;cases l with
 |nil=>simp [nameB] at h
 |cons c r=>
  simp only [nameB,Bool.and_eq_true,decide_eq_true_eq] at h;have h1:=agL (c::r);rw [h.1.2,List.take_of_length_le (by simp)] at h1;simp only [List.all_cons,Bool.and_eq_true] at h1;simp [h.1.1.2,h1.2]
theorem asG: ∀ n,(∀ s:St6,wfS s=true→szS s≤n→ ∀ w∈stW s,wordB w=true)∧(∀ l:List St6,wfL l=true→szL l≤n→ ∀ w∈lsW l,wordB w=true):=by
 intro n;induction n with
 |zero=>
  refine ⟨fun s _ h=>by rw [uU] at h;omega,fun l _ h=>?_⟩;cases l with
  |nil=>simp [lsW]
  |cons s r=>simp only [szL] at h;have:=uU s;omega
 |succ n ih=>
  have hv: ∀ k:Int,1≤k→k≤8→wordB (verbC k)=true:=by
   intro k h0 h1;obtain ⟨m,rfl⟩: ∃ m:Nat,k=m:=⟨k.toNat,by omega⟩;have hm:m<9:=by omega
   have hp:1≤m:=by omega
   clear h0 h1;revert m
   decide+kernel
  have hb: ∀ l:List St6,wfL l=true→szL l≤n→ ∀ w∈blW l,wordB w=true:=by
   intro l h1 h2 w hw;simp only [blW,List.mem_cons,List.mem_append,List.not_mem_nil,or_false] at hw;rcases hw with rfl|hw|rfl
   ·rfl
   ·exact ih.2 l h1 h2 w hw
   ·rfl
  have hS: ∀ s:St6,wfS s=true→szS s≤n+1→ ∀ w∈stW s,wordB w=true:=by
   intro s hw h w hm;obtain ⟨k,a,nm,A,B⟩:=s;rw [uU] at h;rw [uH] at hm;simp only [List.mem_cons] at h hm;simp only [wfS] at hw;by_cases h8:k=8
   ·rw [if_pos h8] at hw hm;simp only [Bool.and_eq_true,List.isEmpty_iff,beq_iff_eq] at hw;rcases hm with rfl|hm
    ·exact hv k (by omega) (by omega)
    ·exact hb A hw.2.2 (by omega) w hm
   ·rw [if_neg h8] at hw hm;by_cases h7:k=7
    ·rw [if_pos h7] at hw hm;simp only [Bool.and_eq_true,beq_iff_eq] at hw;rcases hm with rfl|hm
     ·exact hv k (by omega) (by omega)
     ·rcases List.mem_append.1 hm with hm|hm
      ·exact hb A hw.2.1 (by omega) w hm
      ·cases B with
       |nil=>simp at hm
       |cons b B=>
        simp only [List.isEmpty_cons,Bool.false_eq_true,if_false,List.mem_cons] at hm;rcases hm with rfl|hm
        ·rfl
        ·exact hb (b::B) hw.2.2 (by omega) w hm
    ·rw [if_neg h7] at hw hm;simp only [Bool.and_eq_true,decide_eq_true_eq,List.isEmpty_iff] at hw;rcases hm with rfl|hm
     ·exact hv k (by omega) (by omega)
     ·simp only [List.mem_singleton] at hm;subst hm;exact NG hw.2.2.1
  refine ⟨hS,fun l hw h=>?_⟩;induction l with
  |nil=>simp [lsW]
  |cons s r iH=>
   simp only [wfL,Bool.and_eq_true] at hw;simp only [szL] at h;intro w hm;rw [lsW] at hm;rcases List.mem_append.1 hm with hm|hm
   ·exact hS s hw.1 (by omega) w hm
   ·exact iH hw.2 (by omega) w hm
theorem aq4 {l:List St6} (h:wfL l=true): ∀ w∈blW l,wordB w=true:=by
 intro w hw;simp only [blW,List.mem_cons,List.mem_append,List.not_mem_nil,or_false] at hw;rcases hw with rfl|hw|rfl
 ·rfl
 ·exact (asG _).2 l h (Nat.le_refl _) w hw
 ·rfl
theorem amE {vs ls:List De6} {fs:List Fn6} (hv:wfD vs) (hl:wfD ls) (hf:wfF fs): ∀ w∈progW vs ls fs,wordB w=true:=by
 intro w hw;simp only [progW,dW,fW,List.mem_append,List.mem_flatMap,List.mem_cons,List.not_mem_nil,or_false] at hw;rcases hw with ⟨d,hd,rfl|rfl⟩|⟨d,hd,rfl|rfl⟩|⟨f,hd,rfl|rfl|hw⟩
 ·rfl
 ·exact NG (hv d hd)
 ·rfl
 ·exact NG (hl d hd)
 ·rfl
 ·exact NG (hf f hd).1
 ·exact aq4 (hf f hd).2.1 w hw
theorem V7 {vs ls:List De6} {fs:List Fn6} (hv:wfD vs) (hl:wfD ls) (hf:wfF fs): ∀ p∈progPs vs ls fs,pieceOk p:=by
 intro p hp;have h1:wordB p.1=true:=amE hv hl hf p.1 (by rw [← PJ];exact List.mem_map_of_mem hp);have h2:p.2= [32]∨p.2= [10]:=by
  simp only [progPs,dP,fP,List.mem_append,List.mem_flatMap] at hp;rcases hp with ⟨d,_,h⟩|⟨d,_,h⟩|⟨d,_,h⟩<;>exact aiF _ _ p h
 rcases h2 with h2|h2<;>exact ⟨h1,by rw [h2];simp,by rw [h2];decide⟩
theorem aqC {vs ls:List De6} {fs:List Fn6} (hv:wfD vs) (hl:wfD ls) (hf:wfF fs) (ps:List (ByteArray×List UInt8)) (hp: ∀ p∈ps,pieceOk p) (hW:ps.map (·.1)=progW vs ls fs) (hs:(ptext ps).length≤2000):
  ∃ vs' ls' fs',progP ((⟨(ptext ps).toArray⟩:ByteArray).size:Int) ((ptoks 0 ps).map mkTok).length (((ptoks 0 ps).map mkTok).length+1) ((ptoks 0 ps).map mkTok) ⟨[],[],[]⟩= .ok ⟨vs',ls',fs'⟩ []∧gY.f ⟨(ptext ps).toArray⟩=some (vs',ls',fs',0,0)∧sameP vs ls fs vs' ls' fs'=true:=by
 obtain ⟨vs',ls',fs',h1,h2⟩:=apD ((⟨(ptext ps).toArray⟩:ByteArray).size:Int) vs ls fs ((ptoks 0 ps).map mkTok) hv hl hf (by rw [VZ,hW]);refine ⟨vs',ls',fs',h1,?_,h2⟩;unfold gY.f
 rw [acH,if_neg (by show ¬ (ptext ps).length>2000;omega)];show (match some (toRes [] (lx (ptext ps) 0 0)) with|none=>none|some (ts,at_,er)=>_)=_
 rw [Y5 ps 0 hp];simp only [toRes,List.nil_append,ne_eq,not_true_eq_false,if_false,h1]
theorem adF {vs ls:List De6} {fs:List Fn6} (hv:wfD vs) (hl:wfD ls) (hf:wfF fs) (hs:(textL vs ls fs).length≤2000):
  ∃ vs' ls' fs',gY.f ⟨(textL vs ls fs).toArray⟩=some (vs',ls',fs',0,0)∧sameP vs ls fs vs' ls' fs'=true:=by
 obtain ⟨a,b,c,_,h1,h2⟩:=aqC hv hl hf (progPs vs ls fs) (V7 hv hl hf) (PJ vs ls fs) (by rw [← PD];exact hs);exact ⟨a,b,c,by rw [PD];exact h1,h2⟩
mutual
theorem amQ: ∀ (a b c:St6),sameS a c=true→sameS b c=true→sameS a b=true
 |⟨k,_,n,A,B⟩,⟨k',_,n',A',B'⟩,⟨k'',_,n'',A'',B''⟩,h1,h2=>by
  simp only [sameS,Bool.and_eq_true,beq_iff_eq] at h1 h2 ⊢;exact ⟨h1.1.trans h2.1.symm,h1.2.1.trans h2.2.1.symm,J8 A A' A'' h1.2.2.1 h2.2.2.1,J8 B B' B'' h1.2.2.2 h2.2.2.2⟩
theorem J8: ∀ (a b c:List St6),sameL a c=true→sameL b c=true→sameL a b=true
 |[],[],[],_,_=>rfl
 |a::r,b::s,c::t,h1,h2=>by
  simp only [sameL,Bool.and_eq_true] at h1 h2 ⊢;exact ⟨amQ a b c h1.1 h2.1,J8 r s t h1.2 h2.2⟩
 |[],_::_,[],_,h2=>by simp [sameL] at h2
 |[],_,_::_,h1,_=>by simp [sameL] at h1
 |_::_,_,[],h1,_=>by simp [sameL] at h1
 |_::_,[],_::_,_,h2=>by simp [sameL] at h2
end
end Go.Proofs.YtkmafndljelopaaDoor.Q
