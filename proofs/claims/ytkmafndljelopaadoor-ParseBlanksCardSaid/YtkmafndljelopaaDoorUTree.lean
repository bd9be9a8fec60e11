/- Statements as trees: when two are the same (but for places), where each begins, how many there are. -/
import Derived.Test.YtkmafndljelopaaDoorUEqf
import Derived.Test.YtkmafndljelopaaDoorUQ7
import Derived.Test.YtkmafndljelopaaDoorUPar2
namespace Go.Proofs.YtkmafndljelopaaDoor.Q
open Go.RowKit Go.Proofs.YtkmafndljelopaaDoorW.PrintWords Go.Proofs.YtkmafndljelopaaDoorW.PrintLast Go.Proofs.YtkmafndljelopaaDoorW.PrintMore Go.Proofs.YtkmafndljelopaaDoor.Lx
set_option linter.unusedVariables false
set_option linter.unusedSimpArgs false
mutual
def szS:St6→Nat
 |⟨_,_,_,A,B⟩=>1+szL A+szL B
def szL:List St6→Nat
 |[]=>0
 |s::r=>szS s+szL r
end
mutual
def sameS:St6→St6→Bool
 |⟨k,_,n,A,B⟩,⟨k',_,n',A',B'⟩=>k==k' && (n.toList==n'.toList && (sameL A A' && sameL B B'))
def sameL:List St6→List St6→Bool
 |[],[]=>true
 |a::r,b::s=>sameS a b && sameL r s
 |_,_=>false
end
theorem sameL_eq: ∀ (xs ys:List St6),sameL xs ys=eqAll sameS xs ys
 |[],[]=>by simp [sameL,eqAll]
 |[],_::_=>by simp [sameL,eqAll]
 |_::_,[]=>by simp [sameL,eqAll]
 |a::r,b::s=>by simp [sameL,eqAll,sameL_eq r s]
theorem szS_eq (x:St6):szS x=1+szL x.f3+szL x.f4:=by cases x;simp [szS]
theorem sameS_eq (x y:St6):sameS x y=(x.f0==y.f0 && (x.f2.toList==y.f2.toList && (sameL x.f3 y.f3 && sameL x.f4 y.f4))):=by cases x;cases y;simp [sameS]
theorem szL_mem: ∀ {xs:List St6} {x:St6},x∈xs→szS x≤szL xs
 |s::r,x,h=>by
  rcases List.mem_cons.1 h with rfl|h
  ·simp only [szL];omega
  ·have:=szL_mem h;simp only [szL];omega
set_option maxRecDepth 100000 in
set_option maxHeartbeats 1600000 in
theorem same1_calls {n:Nat} (IH: ∀ (xs ys:List St6) (w:World) (A B:Option Addr) (c d:Nat),szL xs<n→Kd.C k86 w A xs.length xs→xs.length≤c→Kd.C k86 w B ys.length ys→ys.length≤d→
   Calls Tryd.prog 55 #[.slice A xs.length c,.slice B ys.length d] w fun e w'=>e= .returned (.bool (sameL xs ys))∧Below w.heap.size w w')
  (x y:St6) (hx:szS x≤n) (w:World) {cx cy:List Value} (hcx:k86.K w x cx) (hcy:k86.K w y cy):
  Calls Tryd.prog 79 #[.agg cx.toArray,.agg cy.toArray] w fun e w'=>e= .returned (.bool (sameS x y))∧Below w.heap.size w w':=by
 have hu:=Tryd.underlying86;obtain ⟨aA3,ac3,aA4,ac4,rfl,al3,ag3,al4,ag4⟩:=k86_open hcx;obtain ⟨bA3,bc3,bA4,bc4,rfl,bl3,bg3,bl4,bg4⟩:=k86_open hcy;have HI:=Aside0.mk IH;have HA3:=Aside0.mk ag3;have HA4:=Aside0.mk ag4;have HB3:=Aside0.mk bg3;have HB4:=Aside0.mk bg4;have HL:=Aside0.mk (And.intro al3 (And.intro al4 (And.intro bl3 bl4)));have hz:=szS_eq x;have HZ:Aside0 (szL x.f3<n∧szL x.f4<n):=⟨by omega,by omega⟩;have HS:=Aside0.mk (sameS_eq x y);clear IH hcx hcy ag3 ag4 bg3 bg4 al3 al4 bl3 bl4 hz hx;have HB1:=Aside0.mk (below_alloc (below_alloc (Below.refl w.heap.size w) (.cells #[.int .i64 x.f0,.int .i64 x.f1,.string x.f2,.slice aA3 x.f3.length ac3,.slice aA4 x.f4.length ac4] 86)) (.cells #[.int .i64 y.f0,.int .i64 y.f1,.string y.f2,.slice bA3 y.f3.length bc3,.slice bA4 y.f4.length bc4] 86));have hx1:=blk_alloc (blk_new w (.cells #[.int .i64 x.f0,.int .i64 x.f1,.string x.f2,.slice aA3 x.f3.length ac3,.slice aA4 x.f4.length ac4] 86)) (.cells #[.int .i64 y.f0,.int .i64 y.f1,.string y.f2,.slice bA3 y.f3.length bc3,.slice bA4 y.f4.length bc4] 86);have hy1:=blk_new (w.alloc (.cells #[.int .i64 x.f0,.int .i64 x.f1,.string x.f2,.slice aA3 x.f3.length ac3,.slice aA4 x.f4.length ac4] 86)) (.cells #[.int .i64 y.f0,.int .i64 y.f1,.string y.f2,.slice bA3 y.f3.length bc3,.slice bA4 y.f4.length bc4] 86);have hs1:(w.alloc (.cells #[.int .i64 x.f0,.int .i64 x.f1,.string x.f2,.slice aA3 x.f3.length ac3,.slice aA4 x.f4.length ac4] 86)).heap.size=w.heap.size+1:=by simp only [World.alloc,Array.size_push]
 rw [hs1] at hy1;have HX1:=Aside0.mk hx1;have HY1:=Aside0.mk hy1;clear hx1 hy1 hs1;go_enter Tryd.func79,Tryd.ntmps79
 go_upto_region 1 with fail
 generalize (w.alloc (.cells #[.int .i64 x.f0,.int .i64 x.f1,.string x.f2,.slice aA3 x.f3.length ac3,.slice aA4 x.f4.length ac4] 86)).alloc (.cells #[.int .i64 y.f0,.int .i64 y.f1,.string y.f2,.slice bA3 y.f3.length bc3,.slice bA4 y.f4.length bc4] 86)=W at HB1 HX1 HY1 ⊢;generalize w.heap.size+1=n2 at HY1 ⊢;generalize hn1:w.heap.size=n1 at HX1 ⊢;have HN1:=Aside0.mk hn1;clear hn1;have u0:=blk_cell HX1.out 0;have u2:=blk_cell HX1.out 2;have u3:=blk_cell HX1.out 3;have v0:=blk_cell HY1.out 0;have v2:=blk_cell HY1.out 2;have v3:=blk_cell HY1.out 3;by_cases h0:x.f0=y.f0
 rotate_left
 ·have q0:(x.f0==y.f0)=false:=beq_eq_false_iff_ne.mpr h0;have hs:=HS.out;rw [q0,Bool.false_and] at hs;have HSS:=Aside0.mk hs;clear hs h0;go_wp2_with fail
  go_ret
  exact ⟨by rw [HSS.out];rfl,HB1.out⟩
 have q0:(x.f0==y.f0)=true:=beq_iff_eq.mpr h0;have hs:=HS.out;rw [q0,Bool.true_and] at hs;by_cases h2:x.f2.toList=y.f2.toList
 rotate_left
 ·have q2:(x.f2.toList==y.f2.toList)=false:=beq_eq_false_iff_ne.mpr h2;rw [q2,Bool.false_and] at hs;have HSS:=Aside0.mk hs;clear hs h0 h2;go_wp2_with fail
  go_ret
  exact ⟨by rw [HSS.out];rfl,HB1.out⟩
 have q2:(x.f2.toList==y.f2.toList)=true:=beq_iff_eq.mpr h2;rw [q2,Bool.true_and] at hs;have HSS:=Aside0.mk hs;clear hs h0 h2;go_wp2_with fail
 refine (HI.out x.f3 y.f3 _ aA3 bA3 ac3 bc3 HZ.out.1 (Kd.C_below HA3.out HB1.out) HL.out.1 (Kd.C_below HB3.out HB1.out) HL.out.2.2.1).mono ?_
 rintro E w2 ⟨rfl,hb2⟩
 have HB2:=Aside0.mk (below_step HB1.out hb2);have u4:=blk_cell (blk_below HX1.out hb2) 4;have v4:=blk_cell (blk_below HY1.out hb2) 4;clear hb2 u0 u2 u3 v0 v2 v3 HX1 HY1;have hs:=HSS.out;cases hq:sameL x.f3 y.f3 with
 |false=>
  rw [hq,Bool.false_and] at hs;have HS2:=Aside0.mk hs;clear hs hq;go_wp2_with fail
  go_ret
  exact ⟨by rw [HS2.out];rfl,HB2.out⟩
 |true=>
  rw [hq,Bool.true_and] at hs;have HS2:=Aside0.mk hs;clear hs hq;go_wp2_with fail
  refine (HI.out x.f4 y.f4 _ aA4 bA4 ac4 bc4 HZ.out.2 (Kd.C_below HA4.out HB2.out) HL.out.2.1 (Kd.C_below HB4.out HB2.out) HL.out.2.2.2).mono ?_
  rintro E w3 ⟨rfl,hb3⟩
  have HB3':=Aside0.mk (below_step HB2.out hb3);clear hb3 u4 v4;rw [← HS2.out];go_wp2_with fail
  go_ret
  exact ⟨rfl,HB3'.out⟩
set_option maxRecDepth 100000 in
theorem same_calls: ∀ (n:Nat) (xs ys:List St6) (w:World) (A B:Option Addr) (c d:Nat),szL xs<n→Kd.C k86 w A xs.length xs→xs.length≤c→Kd.C k86 w B ys.length ys→ys.length≤d→
  Calls Tryd.prog 55 #[.slice A xs.length c,.slice B ys.length d] w fun e w'=>e= .returned (.bool (sameL xs ys))∧Below w.heap.size w w'
 |0,_,_,_,_,_,_,_,h,_,_,_,_=>absurd h (by omega)
 |n+1,xs,ys,w,A,B,c,d,h,hx,hc,hy,hd=>by
  have IH:=same_calls n;have HE:=Aside0.mk (eqf_S sameS hx hc hy hd (fun x hm y _ W cx cy _ hcx hcy=>same1_calls IH x y (by have:=szL_mem hm;omega) W hcx hcy));have HQ:=Aside0.mk (sameL_eq xs ys);clear IH h hx hc hy hd;go_enter Tryd.func55,Tryd.ntmps55
  go_wp2_with fail
  refine HE.out.mono ?_
  rintro E w2 ⟨rfl,hb⟩
  rw [← HQ.out];go_wp2_with fail
  go_ret
  exact ⟨rfl,hb⟩
def sameF (x y:Fn6):Bool:=x.f0.toList==y.f0.toList && sameL x.f2 y.f2
def sameD (x y:De6):Bool:=x.f0.toList==y.f0.toList
def sameP (v1 l1:List De6) (f1:List Fn6) (v2 l2:List De6) (f2:List Fn6):Bool:=eqAll sameD v1 v2 && (eqAll sameD l1 l2 && eqAll sameF f1 f2)
set_option maxRecDepth 100000 in
set_option maxHeartbeats 1600000 in
theorem sameF_calls (x y:Fn6) (w:World) {cx cy:List Value} (hcx:k46.K w x cx) (hcy:k46.K w y cy):
  Calls Tryd.prog 54 #[.agg cx.toArray,.agg cy.toArray] w fun e w'=>e= .returned (.bool (sameF x y))∧Below w.heap.size w w':=by
 have hu:=Tryd.underlying46;obtain ⟨aA2,ac2,rfl,al2,ag2⟩:=k46_open hcx;obtain ⟨bA2,bc2,rfl,bl2,bg2⟩:=k46_open hcy;have HA2:=Aside0.mk ag2;have HB2:=Aside0.mk bg2;have HL:=Aside0.mk (And.intro al2 bl2);have HS:=Aside0.mk (show sameF x y=(x.f0.toList==y.f0.toList && sameL x.f2 y.f2) from rfl);clear hcx hcy ag2 bg2 al2 bl2;have HB1:=Aside0.mk (below_alloc (below_alloc (Below.refl w.heap.size w) (.cells #[.string x.f0,.int .i64 x.f1,.slice aA2 x.f2.length ac2] 46)) (.cells #[.string y.f0,.int .i64 y.f1,.slice bA2 y.f2.length bc2] 46));have hx1:=blk_alloc (blk_new w (.cells #[.string x.f0,.int .i64 x.f1,.slice aA2 x.f2.length ac2] 46)) (.cells #[.string y.f0,.int .i64 y.f1,.slice bA2 y.f2.length bc2] 46);have hy1:=blk_new (w.alloc (.cells #[.string x.f0,.int .i64 x.f1,.slice aA2 x.f2.length ac2] 46)) (.cells #[.string y.f0,.int .i64 y.f1,.slice bA2 y.f2.length bc2] 46);have hs1:(w.alloc (.cells #[.string x.f0,.int .i64 x.f1,.slice aA2 x.f2.length ac2] 46)).heap.size=w.heap.size+1:=by simp only [World.alloc,Array.size_push]
 rw [hs1] at hy1;clear hs1;go_enter Tryd.func54,Tryd.ntmps54
 go_upto_region 1 with fail
 generalize (w.alloc (.cells #[.string x.f0,.int .i64 x.f1,.slice aA2 x.f2.length ac2] 46)).alloc (.cells #[.string y.f0,.int .i64 y.f1,.slice bA2 y.f2.length bc2] 46)=W at HB1 hx1 hy1 ⊢;generalize w.heap.size+1=n2 at hy1 ⊢;generalize hn1:w.heap.size=n1 at hx1 ⊢;have HN1:=Aside0.mk hn1;clear hn1;have u0:=blk_cell hx1 0;have u2:=blk_cell hx1 2;have v0:=blk_cell hy1 0;have v2:=blk_cell hy1 2;clear hx1 hy1;by_cases h2:x.f0.toList=y.f0.toList
 rotate_left
 ·have q2:(x.f0.toList==y.f0.toList)=false:=beq_eq_false_iff_ne.mpr h2;have hs:=HS.out;rw [q2,Bool.false_and] at hs;have HSS:=Aside0.mk hs;clear hs h2;go_wp2_with fail
  go_ret
  exact ⟨by rw [HSS.out];rfl,HB1.out⟩
 have q2:(x.f0.toList==y.f0.toList)=true:=beq_iff_eq.mpr h2;have hs:=HS.out;rw [q2,Bool.true_and] at hs;have HSS:=Aside0.mk hs;clear hs h2;go_wp2_with fail
 refine (same_calls _ x.f2 y.f2 _ aA2 bA2 ac2 bc2 (Nat.lt_succ_self _) (Kd.C_below HA2.out HB1.out) HL.out.1 (Kd.C_below HB2.out HB1.out) HL.out.2).mono ?_
 rintro E w2 ⟨rfl,hb2⟩
 rw [← HSS.out];go_wp2_with fail
 go_ret
 exact ⟨rfl,below_step HB1.out hb2⟩
theorem sameD_calls (x y:De6) (w:World) {cx cy:List Value} (hcx:k59.K w x cx) (hcy:k59.K w y cy):
  Calls Tryd.prog 52 #[.agg cx.toArray,.agg cy.toArray] w fun e w'=>e= .returned (.bool (sameD x y))∧Below w.heap.size w w':=by
 obtain rfl:=k59_open hcx;obtain rfl:=k59_open hcy;exact parse_called.calls x.f0 x.f1 y.f0 y.f1 _ w rfl
def parse_Same.f (l0_0 l0_1:List De6) (l0_2:List Fn6) (l1_0 l1_1:List De6) (l1_2:List Fn6):Option Bool:=some (sameP l0_0 l0_1 l0_2 l1_0 l1_1 l1_2)
set_option maxRecDepth 100000 in
set_option maxHeartbeats 1600000 in
theorem parse_Same.calls (A0_0:Option Addr) (c0_0:Nat) (l0_0:List De6) (A0_1:Option Addr) (c0_1:Nat) (l0_1:List De6) (A0_2:Option Addr) (c0_2:Nat) (l0_2:List Fn6) (A1_0:Option Addr) (c1_0:Nat) (l1_0:List De6) (A1_1:Option Addr) (c1_1:Nat) (l1_1:List De6) (A1_2:Option Addr) (c1_2:Nat) (l1_2:List Fn6) (r:Bool) (w:World)
  (hr0_0:Kd.C k59 w A0_0 l0_0.length l0_0) (hc0_0:l0_0.length≤c0_0) (hr0_1:Kd.C k59 w A0_1 l0_1.length l0_1) (hc0_1:l0_1.length≤c0_1) (hr0_2:Kd.C k46 w A0_2 l0_2.length l0_2) (hc0_2:l0_2.length≤c0_2)
  (hr1_0:Kd.C k59 w A1_0 l1_0.length l1_0) (hc1_0:l1_0.length≤c1_0) (hr1_1:Kd.C k59 w A1_1 l1_1.length l1_1) (hc1_1:l1_1.length≤c1_1) (hr1_2:Kd.C k46 w A1_2 l1_2.length l1_2) (hc1_2:l1_2.length≤c1_2)
  (h:parse_Same.f l0_0 l0_1 l0_2 l1_0 l1_1 l1_2=some r):
  Calls Tryd.prog 26 #[.agg #[.slice A0_0 l0_0.length c0_0,.slice A0_1 l0_1.length c0_1,.slice A0_2 l0_2.length c0_2],.agg #[.slice A1_0 l1_0.length c1_0,.slice A1_1 l1_1.length c1_1,.slice A1_2 l1_2.length c1_2]] w fun e w'=>e= .returned (.bool r)∧Below w.heap.size w w':=by
 obtain rfl:=Option.some.inj h;have hu:=Tryd.underlying30;have H0:=Aside0.mk (And.intro hr0_0 (And.intro hc0_0 (And.intro hr1_0 hc1_0)));have H1:=Aside0.mk (And.intro hr0_1 (And.intro hc0_1 (And.intro hr1_1 hc1_1)));have H2:=Aside0.mk (And.intro hr0_2 (And.intro hc0_2 (And.intro hr1_2 hc1_2)));have HS:=Aside0.mk (show sameP l0_0 l0_1 l0_2 l1_0 l1_1 l1_2=(eqAll sameD l0_0 l1_0 && (eqAll sameD l0_1 l1_1 && eqAll sameF l0_2 l1_2)) from rfl);clear h hr0_0 hc0_0 hr0_1 hc0_1 hr0_2 hc0_2 hr1_0 hc1_0 hr1_1 hc1_1 hr1_2 hc1_2;have HB1:=Aside0.mk (below_alloc (below_alloc (Below.refl w.heap.size w) (.cells #[.slice A0_0 l0_0.length c0_0,.slice A0_1 l0_1.length c0_1,.slice A0_2 l0_2.length c0_2] 30)) (.cells #[.slice A1_0 l1_0.length c1_0,.slice A1_1 l1_1.length c1_1,.slice A1_2 l1_2.length c1_2] 30));have hx1:=blk_alloc (blk_new w (.cells #[.slice A0_0 l0_0.length c0_0,.slice A0_1 l0_1.length c0_1,.slice A0_2 l0_2.length c0_2] 30)) (.cells #[.slice A1_0 l1_0.length c1_0,.slice A1_1 l1_1.length c1_1,.slice A1_2 l1_2.length c1_2] 30);have hy1:=blk_new (w.alloc (.cells #[.slice A0_0 l0_0.length c0_0,.slice A0_1 l0_1.length c0_1,.slice A0_2 l0_2.length c0_2] 30)) (.cells #[.slice A1_0 l1_0.length c1_0,.slice A1_1 l1_1.length c1_1,.slice A1_2 l1_2.length c1_2] 30);have hs1:(w.alloc (.cells #[.slice A0_0 l0_0.length c0_0,.slice A0_1 l0_1.length c0_1,.slice A0_2 l0_2.length c0_2] 30)).heap.size=w.heap.size+1:=by simp only [World.alloc,Array.size_push]
 rw [hs1] at hy1;clear hs1;go_enter Tryd.func26,Tryd.ntmps26
 go_upto_region 1 with fail
 generalize (w.alloc (.cells #[.slice A0_0 l0_0.length c0_0,.slice A0_1 l0_1.length c0_1,.slice A0_2 l0_2.length c0_2] 30)).alloc (.cells #[.slice A1_0 l1_0.length c1_0,.slice A1_1 l1_1.length c1_1,.slice A1_2 l1_2.length c1_2] 30)=W at HB1 hx1 hy1 ⊢;generalize w.heap.size+1=n2 at hy1 ⊢;generalize hn1:w.heap.size=n1 at hx1 ⊢;have HN1:=Aside0.mk hn1;have HX1:=Aside0.mk hx1;have HY1:=Aside0.mk hy1;clear hn1;have u0:=blk_cell hx1 0;have v0:=blk_cell hy1 0;clear hx1 hy1;go_wp2_with fail
 refine (eqf_D sameD (Kd.C_below H0.out.1 HB1.out) H0.out.2.1 (Kd.C_below H0.out.2.2.1 HB1.out) H0.out.2.2.2 (fun x _ y _ W cx cy _ hcx hcy=>sameD_calls x y W hcx hcy)).mono ?_
 rintro E w2 ⟨rfl,hb2⟩
 have HB2:=Aside0.mk (below_step HB1.out hb2);have HX2:=Aside0.mk (blk_below HX1.out hb2);have HY2:=Aside0.mk (blk_below HY1.out hb2);clear hb2 u0 v0 HX1 HY1;have u1:=blk_cell HX2.out 1;have v1:=blk_cell HY2.out 1;have hs:=HS.out;cases hq:eqAll sameD l0_0 l1_0 with
 |false=>
  rw [hq,Bool.false_and] at hs;have HS2:=Aside0.mk hs;clear hs hq;go_wp2_with fail
  go_ret
  exact ⟨by rw [HS2.out];rfl,HB2.out⟩
 |true=>
  rw [hq,Bool.true_and] at hs;have HS2:=Aside0.mk hs;clear hs hq;go_wp2_with fail
  refine (eqf_D sameD (Kd.C_below H1.out.1 HB2.out) H1.out.2.1 (Kd.C_below H1.out.2.2.1 HB2.out) H1.out.2.2.2 (fun x _ y _ W cx cy _ hcx hcy=>sameD_calls x y W hcx hcy)).mono ?_
  rintro E w3 ⟨rfl,hb3⟩
  have HB3:=Aside0.mk (below_step HB2.out hb3);have u2:=blk_cell (blk_below HX2.out hb3) 2;have v2:=blk_cell (blk_below HY2.out hb3) 2;clear hb3 u1 v1 HX2 HY2;have hs:=HS2.out;cases hq:eqAll sameD l0_1 l1_1 with
  |false=>
   rw [hq,Bool.false_and] at hs;have HS3:=Aside0.mk hs;clear hs hq;go_wp2_with fail
   go_ret
   exact ⟨by rw [HS3.out];rfl,HB3.out⟩
  |true=>
   rw [hq,Bool.true_and] at hs;have HS3:=Aside0.mk hs;clear hs hq;go_wp2_with fail
   refine (eqf_F sameF (Kd.C_below H2.out.1 HB3.out) H2.out.2.1 (Kd.C_below H2.out.2.2.1 HB3.out) H2.out.2.2.2 (fun x _ y _ W cx cy _ hcx hcy=>sameF_calls x y W hcx hcy)).mono ?_
   rintro E w4 ⟨rfl,hb4⟩
   rw [← HS3.out];go_wp2_with fail
   go_ret
   exact ⟨rfl,below_step HB3.out hb4⟩
end Go.Proofs.YtkmafndljelopaaDoor.Q
