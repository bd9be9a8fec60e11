/- Statements as trees: when two are the same (but for places), where each begins, how many there are. -/
import Derived.Test.YtkmafndljelopaaDoorJEqf
import Derived.Test.YtkmafndljelopaaDoorJQ7
import Derived.Test.YtkmafndljelopaaDoorJPar2
namespace Go.Proofs.YtkmafndljelopaaDoor.Q
open Go.RowKit Go.Proofs.YtkmafndljelopaaDoorW.PrintWords Go.Proofs.YtkmafndljelopaaDoorW.PrintLast Go.Proofs.YtkmafndljelopaaDoorW.PrintMore Go.Proofs.YtkmafndljelopaaDoor.Lx
set_option linter.unusedVariables false
set_option linter.unusedSimpArgs false
mutual
def szS:St6→Nat
 |⟨_,_,_,A,B⟩=>1+szL A+szL B
def szL:List St6→Nat
 |[]=>0
 |s::r=>szS s+szL r
end
mutual
def sameS:St6→St6→Bool
 |⟨k,_,n,A,B⟩,⟨k',_,n',A',B'⟩=>k==k' && (n.toList==n'.toList && (sameL A A' && sameL B B'))
def sameL:List St6→List St6→Bool
 |[],[]=>true
 |a::r,b::s=>sameS a b && sameL r s
 |_,_=>false
end
theorem EP: ∀ (xs ys:List St6),sameL xs ys=eqAll sameS xs ys
 |[],[]=>by simp [sameL,eqAll]
 |[],_::_=>by simp [sameL,eqAll]
 |_::_,[]=>by simp [sameL,eqAll]
 |a::r,b::s=>by simp [sameL,eqAll,EP r s]
theorem uU (x:St6):szS x=1+szL x.f3+szL x.f4:=by cases x;simp [szS]
theorem YO (x y:St6):sameS x y=(x.f0==y.f0 && (x.f2.toList==y.f2.toList && (sameL x.f3 y.f3 && sameL x.f4 y.f4))):=by cases x;cases y;simp [sameS]
theorem UE: ∀ {xs:List St6} {x:St6},x∈xs→szS x≤szL xs
 |s::r,x,h=>by
  rcases List.mem_cons.1 h with rfl|h
  ·simp only [szL];omega
  ·have:=UE h;simp only [szL];omega
theorem LV: ∀ n,∀ xs:List St6,szL xs≤n→sameL xs xs=true
 |n,[],_=>by simp [sameL]
 |0,s::r,h=>by
  have:=uU s;simp only [szL] at h;omega
 |n+1,s::r,h=>by
  have hs:=uU s;simp only [szL] at h;simp [sameL,YO,LV n s.f3 (by omega),LV n s.f4 (by omega),LV n r (by omega)]
set_option maxRecDepth 100000 in
set_option maxHeartbeats 1600000 in
theorem axD {n:Nat} (IH: ∀ (xs ys:List St6) (w:World) (A B:Option Addr) (c d:Nat),szL xs<n→Kd.C k86 w A xs.length xs→xs.length≤c→Kd.C k86 w B ys.length ys→ys.length≤d→
   Calls Tryd.prog 55 #[.slice A xs.length c,.slice B ys.length d] w fun e w'=>e= .returned (.bool (sameL xs ys))∧Below w.heap.size w w')
  (x y:St6) (hx:szS x≤n) (w:World) {cx cy:List Value} (hcx:k86.K w x cx) (hcy:k86.K w y cy):
  Calls Tryd.prog 79 #[.agg cx.toArray,.agg cy.toArray] w fun e w'=>e= .returned (.bool (sameS x y))∧Below w.heap.size w w':=by
 have hu:=Tryd.underlying86;obtain ⟨lZ,l9,nA,nH,rfl,AF,BN,DZ,D8⟩:=E8 hcx;obtain ⟨mE,mF,nU,nS,rfl,z8,AI,DT,DH⟩:=E8 hcy;have HI:=aC.mk IH;have au9:=aC.mk BN;have apC:=aC.mk D8;have gF:=aC.mk AI;have pF:=aC.mk DH;have HL:=aC.mk (And.intro AF (And.intro DZ (And.intro z8 DT)));have hz:=uU x;have HZ:aC (szL x.f3<n∧szL x.f4<n):=⟨by omega,by omega⟩;have HS:=aC.mk (YO x y);clear IH hcx hcy BN D8 AI DH AF DZ z8 DT hz hx;have cY:=aC.mk (aI (aI (Below.refl w.heap.size w) (.cells #[.int .i64 x.f0,.int .i64 x.f1,.string x.f2,.slice lZ x.f3.length l9,.slice nA x.f4.length nH] 86)) (.cells #[.int .i64 y.f0,.int .i64 y.f1,.string y.f2,.slice mE y.f3.length mF,.slice nU y.f4.length nS] 86));have kL:=aQ (gC w (.cells #[.int .i64 x.f0,.int .i64 x.f1,.string x.f2,.slice lZ x.f3.length l9,.slice nA x.f4.length nH] 86)) (.cells #[.int .i64 y.f0,.int .i64 y.f1,.string y.f2,.slice mE y.f3.length mF,.slice nU y.f4.length nS] 86);have jN:=gC (w.alloc (.cells #[.int .i64 x.f0,.int .i64 x.f1,.string x.f2,.slice lZ x.f3.length l9,.slice nA x.f4.length nH] 86)) (.cells #[.int .i64 y.f0,.int .i64 y.f1,.string y.f2,.slice mE y.f3.length mF,.slice nU y.f4.length nS] 86);have lC:(w.alloc (.cells #[.int .i64 x.f0,.int .i64 x.f1,.string x.f2,.slice lZ x.f3.length l9,.slice nA x.f4.length nH] 86)).heap.size=w.heap.size+1:=by simp only [World.alloc,Array.size_push]
 rw [lC] at jN;have k9:=aC.mk kL;have qX:=aC.mk jN;clear kL jN lC;go_enter Tryd.func79,Tryd.ntmps79
 go_upto_region 1 with fail
 generalize (w.alloc (.cells #[.int .i64 x.f0,.int .i64 x.f1,.string x.f2,.slice lZ x.f3.length l9,.slice nA x.f4.length nH] 86)).alloc (.cells #[.int .i64 y.f0,.int .i64 y.f1,.string y.f2,.slice mE y.f3.length mF,.slice nU y.f4.length nS] 86)=W at cY k9 qX ⊢;generalize w.heap.size+1=n2 at qX ⊢;generalize nK:w.heap.size=n1 at k9 ⊢;have l8:=aC.mk nK;clear nK;have u0:=aD k9.out 0;have u2:=aD k9.out 2;have u3:=aD k9.out 3;have v0:=aD qX.out 0;have v2:=aD qX.out 2;have v3:=aD qX.out 3;by_cases h0:x.f0=y.f0
 rotate_left
 ·have q0:(x.f0==y.f0)=false:=beq_eq_false_iff_ne.mpr h0;have hs:=HS.out;rw [q0,Bool.false_and] at hs;have HSS:=aC.mk hs;clear hs h0;go_wp2_with fail
  go_ret
  exact ⟨by rw [HSS.out];rfl,cY.out⟩
 have q0:(x.f0==y.f0)=true:=beq_iff_eq.mpr h0;have hs:=HS.out;rw [q0,Bool.true_and] at hs;by_cases h2:x.f2.toList=y.f2.toList
 rotate_left
 ·have q2:(x.f2.toList==y.f2.toList)=false:=beq_eq_false_iff_ne.mpr h2;rw [q2,Bool.false_and] at hs;have HSS:=aC.mk hs;clear hs h0 h2;go_wp2_with fail
  go_ret
  exact ⟨by rw [HSS.out];rfl,cY.out⟩
 have q2:(x.f2.toList==y.f2.toList)=true:=beq_iff_eq.mpr h2;rw [q2,Bool.true_and] at hs;have HSS:=aC.mk hs;clear hs h0 h2;go_wp2_with fail
 refine (HI.out x.f3 y.f3 _ lZ mE l9 mF HZ.out.1 (Kd.cN au9.out cY.out) HL.out.1 (Kd.cN gF.out cY.out) HL.out.2.2.1).mono ?_
 rintro E w2 ⟨rfl,bR⟩
 have cR:=aC.mk (bQ cY.out bR);have u4:=aD (dB k9.out bR) 4;have v4:=aD (dB qX.out bR) 4;clear bR u0 u2 u3 v0 v2 v3 k9 qX;have hs:=HSS.out;cases hq:sameL x.f3 y.f3 with
 |false=>
  rw [hq,Bool.false_and] at hs;have oK:=aC.mk hs;clear hs hq;go_wp2_with fail
  go_ret
  exact ⟨by rw [oK.out];rfl,cR.out⟩
 |true=>
  rw [hq,Bool.true_and] at hs;have oK:=aC.mk hs;clear hs hq;go_wp2_with fail
  refine (HI.out x.f4 y.f4 _ nA nU nH nS HZ.out.2 (Kd.cN apC.out cR.out) HL.out.2.1 (Kd.cN pF.out cR.out) HL.out.2.2.2).mono ?_
  rintro E w3 ⟨rfl,iV⟩
  have azV:=aC.mk (bQ cR.out iV);clear iV u4 v4;rw [← oK.out];go_wp2_with fail
  go_ret
  exact ⟨rfl,azV.out⟩
set_option maxRecDepth 100000 in
theorem ah3: ∀ (n:Nat) (xs ys:List St6) (w:World) (A B:Option Addr) (c d:Nat),szL xs<n→Kd.C k86 w A xs.length xs→xs.length≤c→Kd.C k86 w B ys.length ys→ys.length≤d→
  Calls Tryd.prog 55 #[.slice A xs.length c,.slice B ys.length d] w fun e w'=>e= .returned (.bool (sameL xs ys))∧Below w.heap.size w w'
 |0,_,_,_,_,_,_,_,h,_,_,_,_=>absurd h (by omega)
 |n+1,xs,ys,w,A,B,c,d,h,hx,hc,hy,hd=>by
  have IH:=ah3 n;have HE:=aC.mk (alV sameS hx hc hy hd (fun x hm y _ W cx cy _ hcx hcy=>axD IH x y (by have:=UE hm;omega) W hcx hcy));have HQ:=aC.mk (EP xs ys);clear IH h hx hc hy hd;go_enter Tryd.func55,Tryd.ntmps55
  go_wp2_with fail
  refine HE.out.mono ?_
  rintro E w2 ⟨rfl,hb⟩
  rw [← HQ.out];go_wp2_with fail
  go_ret
  exact ⟨rfl,hb⟩
def sameF (x y:Fn6):Bool:=x.f0.toList==y.f0.toList && sameL x.f2 y.f2
def sameD (x y:De6):Bool:=x.f0.toList==y.f0.toList
def sameP (v1 l1:List De6) (f1:List Fn6) (v2 l2:List De6) (f2:List Fn6):Bool:=eqAll sameD v1 v2 && (eqAll sameD l1 l2 && eqAll sameF f1 f2)
set_option maxRecDepth 100000 in
set_option maxHeartbeats 1600000 in
theorem aoU (x y:Fn6) (w:World) {cx cy:List Value} (hcx:k46.K w x cx) (hcy:k46.K w y cy):
  Calls Tryd.prog 54 #[.agg cx.toArray,.agg cy.toArray] w fun e w'=>e= .returned (.bool (sameF x y))∧Below w.heap.size w w':=by
 have hu:=Tryd.underlying46;obtain ⟨nV,nO,rfl,DF,CQ⟩:=LF hcx;obtain ⟨oG,oI,rfl,DG,D3⟩:=LF hcy;have aw4:=aC.mk CQ;have cR:=aC.mk D3;have HL:=aC.mk (And.intro DF DG);have HS:=aC.mk (show sameF x y=(x.f0.toList==y.f0.toList && sameL x.f2 y.f2) from rfl);clear hcx hcy CQ D3 DF DG;have cY:=aC.mk (aI (aI (Below.refl w.heap.size w) (.cells #[.string x.f0,.int .i64 x.f1,.slice nV x.f2.length nO] 46)) (.cells #[.string y.f0,.int .i64 y.f1,.slice oG y.f2.length oI] 46));have kL:=aQ (gC w (.cells #[.string x.f0,.int .i64 x.f1,.slice nV x.f2.length nO] 46)) (.cells #[.string y.f0,.int .i64 y.f1,.slice oG y.f2.length oI] 46);have jN:=gC (w.alloc (.cells #[.string x.f0,.int .i64 x.f1,.slice nV x.f2.length nO] 46)) (.cells #[.string y.f0,.int .i64 y.f1,.slice oG y.f2.length oI] 46);have lC:(w.alloc (.cells #[.string x.f0,.int .i64 x.f1,.slice nV x.f2.length nO] 46)).heap.size=w.heap.size+1:=by simp only [World.alloc,Array.size_push]
 rw [lC] at jN;clear lC;go_enter Tryd.func54,Tryd.ntmps54
 go_upto_region 1 with fail
 generalize (w.alloc (.cells #[.string x.f0,.int .i64 x.f1,.slice nV x.f2.length nO] 46)).alloc (.cells #[.string y.f0,.int .i64 y.f1,.slice oG y.f2.length oI] 46)=W at cY kL jN ⊢;generalize w.heap.size+1=n2 at jN ⊢;generalize nK:w.heap.size=n1 at kL ⊢;have l8:=aC.mk nK;clear nK;have u0:=aD kL 0;have u2:=aD kL 2;have v0:=aD jN 0;have v2:=aD jN 2;clear kL jN;by_cases h2:x.f0.toList=y.f0.toList
 rotate_left
 ·have q2:(x.f0.toList==y.f0.toList)=false:=beq_eq_false_iff_ne.mpr h2;have hs:=HS.out;rw [q2,Bool.false_and] at hs;have HSS:=aC.mk hs;clear hs h2;go_wp2_with fail
  go_ret
  exact ⟨by rw [HSS.out];rfl,cY.out⟩
 have q2:(x.f0.toList==y.f0.toList)=true:=beq_iff_eq.mpr h2;have hs:=HS.out;rw [q2,Bool.true_and] at hs;have HSS:=aC.mk hs;clear hs h2;go_wp2_with fail
 refine (ah3 _ x.f2 y.f2 _ nV oG nO oI (Nat.lt_succ_self _) (Kd.cN aw4.out cY.out) HL.out.1 (Kd.cN cR.out cY.out) HL.out.2).mono ?_
 rintro E w2 ⟨rfl,bR⟩
 rw [← HSS.out];go_wp2_with fail
 go_ret
 exact ⟨rfl,bQ cY.out bR⟩
theorem aeC (x y:De6) (w:World) {cx cy:List Value} (hcx:k59.K w x cx) (hcy:k59.K w y cy):
  Calls Tryd.prog 52 #[.agg cx.toArray,.agg cy.toArray] w fun e w'=>e= .returned (.bool (sameD x y))∧Below w.heap.size w w':=by
 obtain rfl:=WO hcx;obtain rfl:=WO hcy;exact U9.calls x.f0 x.f1 y.f0 y.f1 _ w rfl
def KX.f (cD cH:List De6) (bK:List Fn6) (jI jJ:List De6) (e8:List Fn6):Option Bool:=some (sameP cD cH bK jI jJ e8)
set_option maxRecDepth 100000 in
set_option maxHeartbeats 1600000 in
theorem KX.calls (gR:Option Addr) (gN:Nat) (cD:List De6) (gP:Option Addr) (gQ:Nat) (cH:List De6) (eY:Option Addr) (eO:Nat) (bK:List Fn6) (qZ:Option Addr) (rH:Nat) (jI:List De6) (rF:Option Addr) (rP:Nat) (jJ:List De6) (rI:Option Addr) (oX:Nat) (e8:List Fn6) (r:Bool) (w:World)
  (uF:Kd.C k59 w gR cD.length cD) (tU:cD.length≤gN) (sV:Kd.C k59 w gP cH.length cH) (u6:cH.length≤gQ) (nM:Kd.C k46 w eY bK.length bK) (oC:bK.length≤eO)
  (J1:Kd.C k59 w qZ jI.length jI) (FR:jI.length≤rH) (FT:Kd.C k59 w rF jJ.length jJ) (HU:jJ.length≤rP) (IS:Kd.C k46 w rI e8.length e8) (LN:e8.length≤oX)
  (h:KX.f cD cH bK jI jJ e8=some r):
  Calls Tryd.prog 26 #[.agg #[.slice gR cD.length gN,.slice gP cH.length gQ,.slice eY bK.length eO],.agg #[.slice qZ jI.length rH,.slice rF jJ.length rP,.slice rI e8.length oX]] w fun e w'=>e= .returned (.bool r)∧Below w.heap.size w w':=by
 obtain rfl:=Option.some.inj h;have hu:=Tryd.underlying30;have H0:=aC.mk (And.intro uF (And.intro tU (And.intro J1 FR)));have H1:=aC.mk (And.intro sV (And.intro u6 (And.intro FT HU)));have H2:=aC.mk (And.intro nM (And.intro oC (And.intro IS LN)));have HS:=aC.mk (show sameP cD cH bK jI jJ e8=(eqAll sameD cD jI && (eqAll sameD cH jJ && eqAll sameF bK e8)) from rfl);clear h uF tU sV u6 nM oC J1 FR FT HU IS LN;have cY:=aC.mk (aI (aI (Below.refl w.heap.size w) (.cells #[.slice gR cD.length gN,.slice gP cH.length gQ,.slice eY bK.length eO] 30)) (.cells #[.slice qZ jI.length rH,.slice rF jJ.length rP,.slice rI e8.length oX] 30));have kL:=aQ (gC w (.cells #[.slice gR cD.length gN,.slice gP cH.length gQ,.slice eY bK.length eO] 30)) (.cells #[.slice qZ jI.length rH,.slice rF jJ.length rP,.slice rI e8.length oX] 30);have jN:=gC (w.alloc (.cells #[.slice gR cD.length gN,.slice gP cH.length gQ,.slice eY bK.length eO] 30)) (.cells #[.slice qZ jI.length rH,.slice rF jJ.length rP,.slice rI e8.length oX] 30);have lC:(w.alloc (.cells #[.slice gR cD.length gN,.slice gP cH.length gQ,.slice eY bK.length eO] 30)).heap.size=w.heap.size+1:=by simp only [World.alloc,Array.size_push]
 rw [lC] at jN;clear lC;go_enter Tryd.func26,Tryd.ntmps26
 go_upto_region 1 with fail
 generalize (w.alloc (.cells #[.slice gR cD.length gN,.slice gP cH.length gQ,.slice eY bK.length eO] 30)).alloc (.cells #[.slice qZ jI.length rH,.slice rF jJ.length rP,.slice rI e8.length oX] 30)=W at cY kL jN ⊢;generalize w.heap.size+1=n2 at jN ⊢;generalize nK:w.heap.size=n1 at kL ⊢;have l8:=aC.mk nK;have k9:=aC.mk kL;have qX:=aC.mk jN;clear nK;have u0:=aD kL 0;have v0:=aD jN 0;clear kL jN;go_wp2_with fail
 refine (aa8 sameD (Kd.cN H0.out.1 cY.out) H0.out.2.1 (Kd.cN H0.out.2.2.1 cY.out) H0.out.2.2.2 (fun x _ y _ W cx cy _ hcx hcy=>aeC x y W hcx hcy)).mono ?_
 rintro E w2 ⟨rfl,bR⟩
 have cR:=aC.mk (bQ cY.out bR);have rU:=aC.mk (dB k9.out bR);have tZ:=aC.mk (dB qX.out bR);clear bR u0 v0 k9 qX;have u1:=aD rU.out 1;have v1:=aD tZ.out 1;have hs:=HS.out;cases hq:eqAll sameD cD jI with
 |false=>
  rw [hq,Bool.false_and] at hs;have oK:=aC.mk hs;clear hs hq;go_wp2_with fail
  go_ret
  exact ⟨by rw [oK.out];rfl,cR.out⟩
 |true=>
  rw [hq,Bool.true_and] at hs;have oK:=aC.mk hs;clear hs hq;go_wp2_with fail
  refine (aa8 sameD (Kd.cN H1.out.1 cR.out) H1.out.2.1 (Kd.cN H1.out.2.2.1 cR.out) H1.out.2.2.2 (fun x _ y _ W cx cy _ hcx hcy=>aeC x y W hcx hcy)).mono ?_
  rintro E w3 ⟨rfl,iV⟩
  have gF:=aC.mk (bQ cR.out iV);have u2:=aD (dB rU.out iV) 2;have v2:=aD (dB tZ.out iV) 2;clear iV u1 v1 rU tZ;have hs:=oK.out;cases hq:eqAll sameD cH jJ with
  |false=>
   rw [hq,Bool.false_and] at hs;have jH:=aC.mk hs;clear hs hq;go_wp2_with fail
   go_ret
   exact ⟨by rw [jH.out];rfl,gF.out⟩
  |true=>
   rw [hq,Bool.true_and] at hs;have jH:=aC.mk hs;clear hs hq;go_wp2_with fail
   refine (aoH sameF (Kd.cN H2.out.1 gF.out) H2.out.2.1 (Kd.cN H2.out.2.2.1 gF.out) H2.out.2.2.2 (fun x _ y _ W cx cy _ hcx hcy=>aoU x y W hcx hcy)).mono ?_
   rintro E w4 ⟨rfl,p8⟩
   rw [← jH.out];go_wp2_with fail
   go_ret
   exact ⟨rfl,bQ gF.out p8⟩
end Go.Proofs.YtkmafndljelopaaDoor.Q
