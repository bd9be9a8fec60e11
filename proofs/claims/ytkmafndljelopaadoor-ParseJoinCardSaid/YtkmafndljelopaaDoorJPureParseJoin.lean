/- ParseJoin: declarations of two texts, one behind the other, are those of both: the texts' words are read one behind the other (Rnd). No condition beyond the row's own. -/
import Derived.Test.YtkmafndljelopaaDoorJTx6
import Derived.Test.YtkmafndljelopaaDoorJJoin6
import Derived.Test.YtkmafndljelopaaDoorJQ15
namespace Go.Proofs.YtkmafndljelopaaDoor.Pure
set_option linter.unusedSimpArgs false
set_option linter.unusedVariables false
open Go.RowKit Go.Proofs.YtkmafndljelopaaDoor.Q Go.Proofs.YtkmafndljelopaaDoor.Lx Go.Proofs.YtkmafndljelopaaDoorW.PrintWords Go.Proofs.YtkmafndljelopaaDoorW.PrintLast
theorem known6:DO.f=some true:=by decide+kernel
theorem uE {α:Type} {eq:α→α→Bool} : ∀ {xs ys:List α},eqAll eq xs ys=true→xs.length=ys.length
 |[],[],_=>rfl
 |a::r,b::s,h=>by
  simp only [eqAll,Bool.and_eq_true] at h;simp only [List.length_cons,uE h.2]
 |[],_::_,h=>by simp [eqAll] at h
 |_::_,[],h=>by simp [eqAll] at h
theorem NK {α:Type} {eq:α→α→Bool} : ∀ {a b c d:List α},eqAll eq a c=true→eqAll eq b d=true→eqAll eq (a++b) (c++d)=true
 |[],b,[],d,_,h=>h
 |x::r,b,y::s,d,h1,h2=>by
  simp only [eqAll,Bool.and_eq_true,List.cons_append] at h1 ⊢;exact ⟨h1.1,NK h1.2 h2⟩
 |[],_,_::_,_,h,_=>by simp [eqAll] at h
 |_::_,_,[],_,h,_=>by simp [eqAll] at h
theorem CF {α:Type} {eq:α→α→Bool} (he: ∀ x a b,eq x a=true→eq x b=true→eq a b=true): ∀ {xs ys zs:List α},eqAll eq xs ys=true→eqAll eq xs zs=true→eqAll eq ys zs=true
 |[],[],[],_,_=>rfl
 |x::r,a::s,b::t,h1,h2=>by
  simp only [eqAll,Bool.and_eq_true] at h1 h2 ⊢;exact ⟨he x a b h1.1 h2.1,CF he h1.2 h2.2⟩
 |[],_::_,_,h,_=>by simp [eqAll] at h
 |[],[],_::_,_,h=>by simp [eqAll] at h
 |_::_,[],_,h,_=>by simp [eqAll] at h
 |_::_,_::_,[],_,h=>by simp [eqAll] at h
theorem Z0 {a b:List St6} (h:sameL a b=true):sameL b a=true:=J8 b a b (LV _ b (Nat.le_refl _)) h
theorem backD (x a b:De6) (h1:sameD x a=true) (h2:sameD x b=true):sameD a b=true:=by
 simp only [sameD,beq_iff_eq] at h1 h2 ⊢;exact h1.symm.trans h2
theorem backF (x a b:Fn6) (h1:sameF x a=true) (h2:sameF x b=true):sameF a b=true:=by
 simp only [sameF,Bool.and_eq_true,beq_iff_eq] at h1 h2 ⊢;exact ⟨h1.1.symm.trans h2.1,J8 _ _ _ (Z0 h1.2) (Z0 h2.2)⟩
theorem amF (t:ByteArray) (l:List De6):(dW t l).length=2 * l.length:=by
 induction l with
 |nil=>rfl
 |cons a r ih=>simp only [dW,List.flatMap_cons,List.length_append,List.length_cons,List.length_nil] at ih ⊢;omega
theorem QX: ∀ (l:List Fn6),4 * l.length+(l.map fun f=>(lsW f.f2).length).sum=(fW l).length:=by
 intro l;induction l with
 |nil=>rfl
 |cons a r ih=>simp only [fW,List.flatMap_cons,List.length_append,List.length_cons,List.length_nil,List.map_cons,List.sum_cons,blW] at ih ⊢;omega
theorem aiV {f:Fn6} : ∀ {l:List Fn6},f∈l→wfF l→szL f.f2<(fW l).length:=by
 intro l hm hf;have h5:=agY f.f2 (hf f hm).2.1;have h6: ∀ (l:List Fn6),f∈l→(lsW f.f2).length≤(l.map fun f=>(lsW f.f2).length).sum:=by
  intro l;induction l with
  |nil=>simp
  |cons a r ih=>
   intro hm;rcases List.mem_cons.1 hm with rfl|hm
   ·simp only [List.map_cons,List.sum_cons];omega
   ·have:=ih hm;simp only [List.map_cons,List.sum_cons];omega
 have h7:=h6 l hm;have h8:0<l.length:=List.length_pos_of_mem hm;have h9:=QX l;omega
theorem anY (e:Int) (v1 l1 v2 l2:List De6) (f1 f2:List Fn6) (L:List Tok6) (a1:wfD v1) (a2:wfD l1) (a3:wfF f1) (b1:wfD v2) (b2:wfD l2) (b3:wfF f2) (hL:L.map key=(progW v1 l1 f1++progW v2 l2 f2).map keyW):
  ∃ va la fa vb lb fb,progP e L.length (L.length+1) L ⟨[],[],[]⟩= .ok ⟨va++vb,la++lb,fa++fb⟩ []∧sameP v1 l1 f1 va la fa=true∧sameP v2 l2 f2 vb lb fb=true:=by
 have hlen:L.length=(progW v1 l1 f1++progW v2 l2 f2).length:=by have:=congrArg List.length hL;simpa using this
 simp only [progW,List.length_append,amF] at hlen;have ac1: ∀ f∈f1,szL f.f2<L.length:=fun f hm=>by have:=aiV hm a3;omega
 have ajR: ∀ f∈f2,szL f.f2<L.length:=fun f hm=>by have:=aiV hm b3;omega
 have g1:=QX f1;have g2:=QX f2;simp only [progW,List.map_append,List.append_assoc] at hL;obtain ⟨L1,M1,rfl,mD,anZ⟩:=List.map_eq_append_iff.1 hL;obtain ⟨L2,M2,rfl,oS,axK⟩:=List.map_eq_append_iff.1 anZ;obtain ⟨L3,M3,rfl,CC,al8⟩:=List.map_eq_append_iff.1 axK;obtain ⟨L4,M4,rfl,CK,aqA⟩:=List.map_eq_append_iff.1 al8;obtain ⟨L5,L6,rfl,Y3,atW⟩:=List.map_eq_append_iff.1 aqA;generalize (L1++(L2++(L3++(L4++(L5++L6))))).length=N at hlen ac1 ajR ⊢;obtain ⟨m,hm⟩: ∃ m,N+1=v1.length+(l1.length+(f1.length+(v2.length+(l2.length+(f2.length+(m+1)))))):=⟨N - v1.length - l1.length - f1.length - v2.length - l2.length - f2.length,by omega⟩;rw [hm];obtain ⟨va,e1,s1⟩:=MM e N (l1.length+(f1.length+(v2.length+(l2.length+(f2.length+(m+1)))))) v1 L1 (L2++(L3++(L4++(L5++L6)))) ⟨[],[],[]⟩ a1 mD;obtain ⟨la,e2,s2⟩:=PV e N (f1.length+(v2.length+(l2.length+(f2.length+(m+1))))) l1 L2 (L3++(L4++(L5++L6))) ⟨[]++va,[],[]⟩ a2 oS;obtain ⟨fa,e3,s3⟩:=MJ e N (v2.length+(l2.length+(f2.length+(m+1)))) f1 L3 (L4++(L5++L6)) ⟨[]++va,[]++la,[]⟩ a3 ac1 CC;obtain ⟨vb,e4,s4⟩:=MM e N (l2.length+(f2.length+(m+1))) v2 L4 (L5++L6) ⟨[]++va,[]++la,[]++fa⟩ b1 CK;obtain ⟨lb,e5,s5⟩:=PV e N (f2.length+(m+1)) l2 L5 L6 ⟨([]++va)++vb,[]++la,[]++fa⟩ b2 Y3;obtain ⟨fb,e6,s6⟩:=MJ e N (m+1) f2 L6 [] ⟨([]++va)++vb,([]++la)++lb,[]++fa⟩ b3 ajR atW;rw [List.append_nil] at e6;rw [e1,e2,e3,e4,e5,e6];exact ⟨va,la,fa,vb,lb,fb,by simp [progP],by simp [sameP,s1,s2,s3],by simp [sameP,s4,s5,s6]⟩
theorem avQ {v1 l1 v2 l2:List De6} {f1 f2:List Fn6} (a1:wfD v1) (a2:wfD l1) (a3:wfF f1) (b1:wfD v2) (b2:wfD l2) (b3:wfF f2) (hs:(textL v1 l1 f1).length+(textL v2 l2 f2).length≤2000):
  ∃ va la fa vb lb fb,gY.f ((⟨(textL v1 l1 f1).toArray⟩:ByteArray)++⟨(textL v2 l2 f2).toArray⟩)=some (va++vb,la++lb,fa++fb,0,0)∧sameP v1 l1 f1 va la fa=true∧sameP v2 l2 f2 vb lb fb=true:=by
 have hp: ∀ p∈progPs v1 l1 f1++progPs v2 l2 f2,pieceOk p:=by
  intro p hp;rcases List.mem_append.1 hp with hp|hp
  ·exact V7 a1 a2 a3 p hp
  ·exact V7 b1 b2 b3 p hp
 have htx:(textL v1 l1 f1)++(textL v2 l2 f2)=ptext (progPs v1 l1 f1++progPs v2 l2 f2):=by rw [PD,PD,II]
 have hl:=congrArg List.length htx;simp only [List.length_append] at hl;rw [awA,htx];obtain ⟨va,la,fa,vb,lb,fb,h1,h2,h3⟩:=anY ((⟨(ptext (progPs v1 l1 f1++progPs v2 l2 f2)).toArray⟩:ByteArray).size:Int) v1 l1 v2 l2 f1 f2 ((ptoks 0 (progPs v1 l1 f1++progPs v2 l2 f2)).map mkTok) a1 a2 a3 b1 b2 b3 (by rw [VZ,List.map_append,PJ,PJ]);refine ⟨va,la,fa,vb,lb,fb,?_,h2,h3⟩;unfold gY.f
 rw [acH,if_neg (by show ¬ (ptext (progPs v1 l1 f1++progPs v2 l2 f2)).length>2000;omega)];show (match some (toRes [] (lx (ptext (progPs v1 l1 f1++progPs v2 l2 f2)) 0 0)) with|none=>none|some (ts,at_,er)=>_)=_
 rw [Y5 _ 0 hp];simp only [toRes,List.nil_append,ne_eq,not_true_eq_false,if_false,h1]
theorem ParseJoin (a b c:List Rw6): ∃ k,dA.f k a b c=some true:=by
 refine EvS.OR ?_
 obtain ⟨ra,ea,ha⟩:=V6 a;obtain ⟨rb,eb,hb⟩:=V6 b;obtain ⟨rc,ec,hc⟩:=V6 c;have out:EvS (fun k=>dA.j0 k a b c true) true:=by
  refine EvS.succ ?_
  simp only [dA.j0];exact EvS.if_pos (by trivial) (.some_ _)
 unfold dA.f
 refine EvS.bind1 known6 (EvS.if_pos rfl (EvS.bind ea ?_));cases ra with
 |false=>exact EvS.if_neg (by decide) out
 |true=>
  refine EvS.if_pos rfl (EvS.bind eb ?_);cases rb with
  |false=>exact EvS.if_neg (by decide) out
  |true=>
   refine EvS.if_pos rfl (EvS.bind ec ?_);cases rc with
   |false=>exact out
   |true=>
    obtain ⟨x1,x2⟩:=ha rfl;obtain ⟨y1,y2⟩:=hb rfl;obtain ⟨z1,z2⟩:=hc rfl;have hp:Few4 a b [] []:=⟨x1,x2,y1,y2,by decide,by decide,by decide,by decide⟩;have hq:Few4 c [] [] []:=⟨z1,z2,by decide,by decide,by decide,by decide,by decide,by decide⟩;refine EvS.succ ?_
    simp only [dA.j0];refine EvS.if_neg (by decide) (EvS.bind (hp.Prog 1) (EvS.bind (hp.rText 1) (EvS.bind (hq.Prog 0) (EvS.bind (hq.rText 0) ?_))));have hsz: ∀ l:List UInt8,(⟨l.toArray⟩:ByteArray).size=l.length:=fun _=>rfl
    have t1:=hp.text 1;have t2:=hq.text 0;simp only [hsz];rw [w64 (by omega)];by_cases hs:(textL prV (prL 1) (prF a b [] [] 1)).length+(textL prV (prL 0) (prF c [] [] [] 0)).length>2000
    ·exact EvS.if_pos (by omega) (.some_ _)
    ·obtain ⟨v1,l1,f1,p1,s1⟩:=adF NC (PN 1) (hp.wfF 1) (by omega);obtain ⟨v2,l2,f2,p2,s2⟩:=adF NC (PN 0) (hq.wfF 0) (by omega);obtain ⟨va,la,fa,vb,lb,fb,p3,s3,s4⟩:=avQ NC (PN 1) (hp.wfF 1) NC (PN 0) (hq.wfF 0) (by omega);refine EvS.if_neg (by omega) (EvS.bind1 p1 (EvS.bind1 p2 (EvS.if_pos (by omega) (EvS.bind1 p3 (EvS.if_pos rfl (EvS.if_pos rfl (EvS.succ ?_)))))));simp only [dA.j1];refine EvS.if_neg (by decide) (EvS.bind1 (a:=true) ?_ (.some_ _));simp only [sameP,Bool.and_eq_true] at s1 s2 s3 s4;have h1:prV.length=3:=rfl;have h2:(prL 1).length=3:=rfl;have h3:(prL 0).length=3:=rfl;have h4:(prF a b [] [] 1).length=4:=rfl;have h5:(prF c [] [] [] 0).length=4:=rfl;have q1:=uE s1.1;have q2:=uE s1.2.1;have q3:=uE s1.2.2;have q4:=uE s2.1;have q5:=uE s2.2.1;have q6:=uE s2.2.2;have q7:=uE s3.1;have q8:=uE s3.2.1;have q9:=uE s4.1;have aHD:=uE s4.2.1;unfold joined6.f
     rw [if_pos];refine ⟨⟨by omega,by omega,by omega,by omega,by omega,by omega,by rw [List.length_append];omega,by rw [List.length_append];omega⟩,?_⟩;simp only [sameP,Bool.and_eq_true,List.nil_append];exact ⟨NK (CF backD s3.1 s1.1) (CF backD s4.1 s2.1),NK (CF backD s3.2.1 s1.2.1) (CF backD s4.2.1 s2.2.1),NK (CF backF s3.2.2 s1.2.2) (CF backF s4.2.2 s2.2.2)⟩
end Go.Proofs.YtkmafndljelopaaDoor.Pure
