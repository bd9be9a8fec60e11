/- The law's stands, by hand: on the way on which it answers true (else its f is none). Written by wip/gen_st.py. -/
import Derived.Test.YtkmafndljelopaaDoorTTree
import Derived.Test.YtkmafndljelopaaDoorTQ5
import Derived.BigQuiet
import Derived.Test.YtkmafndljelopaaDoorTW
namespace Go.Proofs.YtkmafndljelopaaDoor.Q
open Go.RowKit Go.Proofs.YtkmafndljelopaaDoorW.PrintWords Go.Proofs.YtkmafndljelopaaDoorW.PrintLast Go.Proofs.YtkmafndljelopaaDoorW.PrintMore Go.Proofs.YtkmafndljelopaaDoor.Lx
set_option linter.unusedVariables false
set_option linter.unusedSimpArgs false
def bt_ (n m:Nat):Array Bool:=((List.range n).map fun i=>m.testBit i).toArray
def verbT (k:Int):ByteArray:=(deadboltref6_Verb.f k).getD ⟨#[]⟩
theorem verb_f {k:Int} (h:1≤k∧k≤8):deadboltref6_Verb.f k=some (verbT k):=by
 have h2:k=1∨k=2∨k=3∨k=4∨k=5∨k=6∨k=7∨k=8:=by omega
 rcases h2 with rfl|rfl|rfl|rfl|rfl|rfl|rfl|rfl<;>rfl
theorem verb_size {k:Int} (h:1≤k∧k≤8):(verbT k).size≤6:=by
 have h2:k=1∨k=2∨k=3∨k=4∨k=5∨k=6∨k=7∨k=8:=by omega
 rcases h2 with rfl|rfl|rfl|rfl|rfl|rfl|rfl|rfl<;>decide
def wordT (k:Int) (n:ByteArray):ByteArray:=if n.toList= [] then verbT k else (verbT k++(⟨#[32]⟩:ByteArray))++n
mutual
def stS (s:ByteArray):St6→Prop
 |⟨k,a,n,A,B⟩=>(1≤k∧k≤8)∧n.size≤1000000∧0≤a∧a≤1000000000∧a+((wordT k n).size:Int)≤(s.size:Int)∧(s.extract a.toNat (a+((wordT k n).size:Int)).toNat).toList=(wordT k n).toList∧stL s A∧stL s B
def stL (s:ByteArray):List St6→Prop
 |[]=>True
 |x::r=>stS s x∧(∀ y∈r.head?,x.f1<y.f1)∧stL s r
end
theorem stS_eq (s:ByteArray) (x:St6):stS s x=((1≤x.f0∧x.f0≤8)∧x.f2.size≤1000000∧0≤x.f1∧x.f1≤1000000000∧x.f1+((wordT x.f0 x.f2).size:Int)≤(s.size:Int)∧(s.extract x.f1.toNat (x.f1+((wordT x.f0 x.f2).size:Int)).toNat).toList=(wordT x.f0 x.f2).toList∧stL s x.f3∧stL s x.f4):=by cases x;simp [stS]
theorem stL_get {s:ByteArray} : ∀ {bs:List St6} {i:Nat},stL s bs→i<bs.length→stS s (bs.getD i z86)
 |x::r,0,h,_=>by simp only [stL] at h;exact h.1
 |x::r,i+1,h,hi=>by
  simp only [stL] at h;simpa using stL_get h.2.2 (by simpa using hi)
theorem stL_asc {s:ByteArray} : ∀ {bs:List St6} {i:Nat},stL s bs→i+1<bs.length→(bs.getD i z86).f1<(bs.getD (i+1) z86).f1
 |x::y::r,0,h,_=>by simp only [stL] at h;exact h.2.1 y (by simp)
 |x::r,i+1,h,hi=>by
  simp only [stL] at h;simpa using stL_asc h.2.2 (by simpa using hi)
theorem wordT_size {k:Int} {n:ByteArray} (h:1≤k∧k≤8) (hn:n.size≤1000000):(wordT k n).size≤1000007:=by
 have:=verb_size h;unfold wordT
 split
 ·omega
 ·simp only [ByteArray.size_append];have:(⟨#[32]⟩:ByteArray).size=1:=rfl;omega
set_option maxRecDepth 100000
def deadboltlaw6_stands.T9:Bool×List (List Nat×List Nat):=(true,[([],[]),([],[]),([0,1],[0,1]),([2],[2]),([3],[3]),([4],[4]),([5],[5]),([6],[6]),([6],[6]),([7,8,6],[6,7,8]),([9,6],[6,9]),([10,6],[6,10]),([6],[6]),([12,6],[6,12]),([11,13,6],[6,11,13]),([6],[6]),([15,6],[6,15]),([14,16,6],[6,14,16]),([6,17],[6,17]),([18,6],[18]),([19],[19]),([19],[19]),([19],[19]),([21,22,19],[19,21,22]),([23,19],[19,23]),([24,19],[19,24]),([19],[19]),([19],[19]),([26,27,19],[19,26,27]),([28,19],[19,28]),([29,19],[19,29]),([19],[19]),([31,19],[19,31]),([30,32,19],[19,30,32]),([20,25,33,19],[19,20,25,33]),([19],[19]),([34,35,19],[19,34,35]),([19,36],[19,36]),([37,19],[37]),([38],[38]),([38],[38]),([38],[38]),([40,41,38],[38,40,41]),([42,38],[38,42]),([43,38],[38,43]),([39,44,38,38],[38,39,44]),([45,38],[38,45]),([38,46],[38,46]),([47,45],[47]),([48],[48]),([48],[48]),([48],[48]),([50,51,48],[48,50,51]),([52,48],[48,52]),([53,48],[48,53]),([49,54,48,48],[48,49,54]),([55,48],[48,55]),([48,56],[48,56]),([57,55],[57]),([58],[58]),([59,58],[58,59]),([60,58,58],[58,60]),([61],[61]),([61],[61]),([63,61],[61,63]),([62,64,61],[61,62,64]),([65,61],[61,65]),([66,61],[61,66]),([61],[61]),([61],[61]),([68,69,61],[61,68,69]),([70,61],[61,70]),([71,61],[61,71]),([67,72,61],[61,67,72]),([61,73,58],[58,61,73]),([58,74],[58,74])])
def deadboltlaw6_stands.B9:List Nat:= [0,0,3,7,15,31,63,127,127,511,1023,2047,127,4223,16383,127,32895,131071,262143,524287,1048575,1048575,1048575,7340031,15728639,32505855,1048575,1048575,202375167,470810623,1007681535,1048575,2148532223,8523874303,17179869183,1048575,68719476735,137438953471,274877906943,549755813887,549755813887,549755813887,3848290697215,8246337208319,17042430230527,35184372088831,70368744177663,140737488355327,281474976710655,562949953421311,562949953421311,562949953421311,3940649673949183,8444249301319679,17451448556060671,36028797018963967,72057594037927935,144115188075855871,288230376151711743,576460752303423487,1152921504606846975,2305843009213693951,4611686018427387903,4611686018427387903,13835058055282163711,36893488147419103231,73786976294838206463,147573952589676412927,4611686018427387903,4611686018427387903,890055401556485865471,2070647022273897168895,4431830263708719775743,9444732965739290427391,18889465931478580854783,37778931862957161709567]
theorem deadboltlaw6_stands.tab9:rtab .any (opsOf Tryd.f21 9)=deadboltlaw6_stands.T9:=by kernel_rfl
theorem deadboltlaw6_stands.bits9:waitsOk deadboltlaw6_stands.T9.2 deadboltlaw6_stands.B9=true:=by kernel_rfl
set_option maxHeartbeats 3200000 in
theorem stands_step (s:ByteArray) {n:Nat} (ih: ∀ (bs:List St6) (w:World) (B:Option Addr) (d:Nat),szL bs<n→stL s bs→Kd.C k86 w B bs.length bs→bs.length≤d→
   Calls Tryd.prog 21 #[.string s,.slice B bs.length d] w fun e w'=>e= .returned (.bool true)∧Below w.heap.size w w')
  (bs:List St6) (w:World) (B:Option Addr) (d:Nat) (h:szL bs<n+1) (hs:stL s bs) (hb:Kd.C k86 w B bs.length bs) (hd:bs.length≤d):
  Calls Tryd.prog 21 #[.string s,.slice B bs.length d] w fun e w'=>e= .returned (.bool true)∧Below w.heap.size w w':=by
 have hu:=Tryd.underlying86;have IH:=Aside0.mk ih;have HX:=Aside0.mk hb;have HN:=Aside0.mk h;have HS:=Aside0.mk hs;clear ih h hb hd hs;go_enter Tryd.func21,Tryd.ntmps21
 go_wp2_with fail
 go_loopg [5] (bs.length+1) (fun kq v5 w'=>∃ (i:Int),v5= .int .i64 i∧Aside0 (0≤i∧i.toNat+kq=bs.length+1∧0<kq)∧Aside0 (Below w.heap.size w w'))
 case atStart=>exact ⟨0,rfl,⟨by omega,by simp,by omega⟩,⟨Below.refl _ _⟩⟩
 case round=>
  obtain ⟨i,rfl,HI,HB⟩:=hrel;cases gk with
  |zero=>exact absurd HI.out.2.2 (by omega)
  |succ k1=>
   by_cases hlt:i<((bs.length:Nat):Int)
   rotate_left
   ·have c1:decide (i<((bs.length:Nat):Int))=false:=decide_eq_false hlt;clear hlt;go_wp2_with fail
    go_ret
    exact ⟨rfl,HB.out⟩
   ·have p0:0≤i:=HI.out.1;have p1:=hlt;have HP:=Aside0.mk (And.intro p0 p1);have c1:decide (i<((bs.length:Nat):Int))=true:=decide_eq_true hlt;obtain ⟨bad,bA3,bc3,bA4,bc4,be_,bx0,bx1,bx2,bx3,bx4,bl3_,bg3_,bl4_,bg4_⟩:=at_T86 HX.out i p0 p1;cases be_
    have bl3:=Aside0.mk bl3_;have bg3:=Aside0.mk bg3_;have bl4:=Aside0.mk bl4_;have bg4:=Aside0.mk bg4_;clear bl3_ bg3_ bl4_ bg4_;have hst:stS s (rd_T86 bs i):=stL_get (i:=i.toNat) HS.out (by omega);rw [stS_eq] at hst;have HST:=Aside0.mk hst;have hmem:szS (rd_T86 bs i)≤szL bs:=szL_mem (getD_memE (by omega));have HSZ:Aside0 (szL (rd_T86 bs i).f3<n∧szL (rd_T86 bs i).f4<n):=Aside0.mk (by have:=HN.out;have:=szS_eq (rd_T86 bs i);omega);have HCL:Aside0 (∀ w',Below w.heap.size w w'→w'.cell? (bad.add (i.toNat * 5))=some (.int .i64 (rd_T86 bs i).f0)∧w'.cell? ⟨(bad.add (i.toNat * 5)).block,(bad.add (i.toNat * 5)).off+1,none⟩=some (.int .i64 (rd_T86 bs i).f1)∧w'.cell? ⟨(bad.add (i.toNat * 5)).block,(bad.add (i.toNat * 5)).off+2,none⟩=some (.string (rd_T86 bs i).f2)∧w'.cell? ⟨(bad.add (i.toNat * 5)).block,(bad.add (i.toNat * 5)).off+3,none⟩=some (.slice bA3 (rd_T86 bs i).f3.length bc3)∧w'.cell? ⟨(bad.add (i.toNat * 5)).block,(bad.add (i.toNat * 5)).off+4,none⟩=some (.slice bA4 (rd_T86 bs i).f4.length bc4)):=Aside0.mk (fun w' hw=>⟨(hw.cell (World.block_lt_of_cell? w _ bx0)).trans bx0,(hw.cell (World.block_lt_of_cell? w _ bx1)).trans bx1,(hw.cell (World.block_lt_of_cell? w _ bx2)).trans bx2,(hw.cell (World.block_lt_of_cell? w _ bx3)).trans bx3,(hw.cell (World.block_lt_of_cell? w _ bx4)).trans bx4⟩);obtain ⟨y0,y1,y2,y3,y4⟩:=HCL.out wr HB.out;have k0:decide ((rd_T86 bs i).f0<1)=false:=decide_eq_false (by have:=hst.1;omega);have k1_:decide (8<(rd_T86 bs i).f0)=false:=decide_eq_false (by have:=hst.1;omega);have k2_:decide ((rd_T86 bs i).f0>8)=false:=decide_eq_false (by have:=hst.1;omega);replace p0:=eq_true p0;replace p1:=eq_true p1;clear hlt hmem bx0 bx1 bx2 bx3 bx4 hst;go_wp2_with fail
    refine (deadboltref6_Verb.calls (rd_T86 bs i).f0 _ _ (verb_f HST.out.1)).mono ?_
    rintro E w2 ⟨rfl,hb2⟩
    have HB2':=Aside0.mk (below_step HB.out hb2);clear hb2 y0 y1 y2 y3 y4;obtain ⟨y0,y1,y2,y3,y4⟩:=HCL.out w2 HB2'.out;go_upto_if 38 with fail
    go_cut [6] (fun v6 wc=>v6= .string (wordT (rd_T86 bs i).f0 (rd_T86 bs i).f2)∧Aside0 (Below w.heap.size w wc))
    case first=>
     by_cases he:(rd_T86 bs i).f2.toList.isEmpty=true
     ·have hw_:wordT (rd_T86 bs i).f0 (rd_T86 bs i).f2=verbT (rd_T86 bs i).f0:=by unfold wordT;rw [if_pos (List.isEmpty_iff.mp he)]
      have HW:=Aside0.mk hw_;have q0:(!(rd_T86 bs i).f2.toList.isEmpty)=false:=by rw [he];rfl
      rw [q0];clear hw_ he q0;go_wp2_with fail
      go_meet
      exact ⟨by rw [HW.out],HB2'⟩
     ·have he2:(rd_T86 bs i).f2.toList.isEmpty=false:=by simpa using he
      have hw_:wordT (rd_T86 bs i).f0 (rd_T86 bs i).f2=(verbT (rd_T86 bs i).f0++(⟨#[32]⟩:ByteArray))++(rd_T86 bs i).f2:=by unfold wordT;rw [if_neg (fun h=>he (List.isEmpty_iff.mpr h))]
      have z1:(verbT (rd_T86 bs i).f0).size+1≤9223372036854775807:=by have h_:=verb_size HST.out.1;omega
      have z2:(verbT (rd_T86 bs i).f0++(⟨#[32]⟩:ByteArray)).size+(rd_T86 bs i).f2.size≤9223372036854775807:=by have h_:=verb_size HST.out.1;have h2_:(⟨#[32]⟩:ByteArray).size=1:=rfl;have h3_:=HST.out.2.1;rw [ByteArray.size_append];omega
      have z3:(verbT (rd_T86 bs i).f0).size+1+(rd_T86 bs i).f2.size≤9223372036854775807:=by have h_:=verb_size HST.out.1;have h3_:=HST.out.2.1;omega
      have z3a:=eq_true z3;have z3b:=eq_false (Nat.not_lt.2 z3);have z1a:=eq_true z1;have z2a:=eq_true z2;have z1b:=eq_false (Nat.not_lt.2 z1);have z2b:=eq_false (Nat.not_lt.2 z2);clear z1 z2 z3;have HW:=Aside0.mk hw_;have q0:(!(rd_T86 bs i).f2.toList.isEmpty)=true:=by rw [he2];rfl
      rw [q0];clear hw_ he he2 q0;go_wp2_with fail
      go_meet
      exact ⟨by rw [HW.out],HB2'⟩
    case rest=>
     obtain ⟨rfl,HBc⟩:=hcut;have hwz:=wordT_size HST.out.1 HST.out.2.1;have m0:decide ((rd_T86 bs i).f1<0)=false:=decide_eq_false (by have:=HST.out.2.2.1;omega);have M1:Aside0 (wrap64 ((rd_T86 bs i).f1+((wordT (rd_T86 bs i).f0 (rd_T86 bs i).f2).size:Int))=(rd_T86 bs i).f1+((wordT (rd_T86 bs i).f0 (rd_T86 bs i).f2).size:Int)):=Aside0.mk (w64 (by have:=HST.out.2.2.1;have:=HST.out.2.2.2.1;omega));have m2:decide ((rd_T86 bs i).f1+((wordT (rd_T86 bs i).f0 (rd_T86 bs i).f2).size:Int)>(s.size:Int))=false:=decide_eq_false (by have:=HST.out.2.2.2.2.1;omega);have m3:decide ((s.size:Int)<(rd_T86 bs i).f1+((wordT (rd_T86 bs i).f0 (rd_T86 bs i).f2).size:Int))=false:=m2;have m4:(0≤(rd_T86 bs i).f1)=True:=eq_true HST.out.2.2.1;have m5:((rd_T86 bs i).f1≤(rd_T86 bs i).f1+((wordT (rd_T86 bs i).f0 (rd_T86 bs i).f2).size:Int))=True:=eq_true (by omega);have m6:((rd_T86 bs i).f1+((wordT (rd_T86 bs i).f0 (rd_T86 bs i).f2).size:Int)≤(s.size:Int))=True:=eq_true HST.out.2.2.2.2.1;have m7:=HST.out.2.2.2.2.2.1;clear hwz y0 y1 y2 y3 y4;by_cases hi0:0<i
     ·have n0:decide (i>0)=true:=decide_eq_true hi0;have n1:decide (0<i)=true:=n0;have N2:Aside0 (wrap64 (i - 1)=i - 1):=Aside0.mk (w64 (by have:=HP.out;have:=HX.out.2.1;omega));have n3:(0≤i - 1)=True:=eq_true (by omega);have n4:(i - 1<((bs.length:Nat):Int))=True:=eq_true (by have:=HP.out;omega);have hasc:(rd_T86 bs (i - 1)).f1<(rd_T86 bs i).f1:=by
       have h1:=stL_asc (i:=(i - 1).toNat) HS.out (by have:=HP.out;omega);rw [show (i - 1).toNat+1=i.toNat by omega] at h1;exact h1
      have n7:(1≤i)=True:=eq_true (by omega);have n8:(i≤((bs.length:Nat):Int))=True:=eq_true (by have:=HP.out;omega);have n5:decide ((rd_T86 bs (i - 1)).f1≥(rd_T86 bs i).f1)=false:=decide_eq_false (by omega);have n6:decide ((rd_T86 bs i).f1≤(rd_T86 bs (i - 1)).f1)=false:=n5;obtain ⟨bad',xA3,xc3,xA4,xc4,be_,bx0,bx1,bx2,bx3,bx4,bl3_,bg3_,bl4_,bg4_⟩:=at_T86 HX.out (i - 1) (by omega) (by have:=HP.out;omega);cases be_
      rw [show (i - 1).toNat=i.toNat - 1 by omega] at bx1;have HF:Aside0 (∀ w',Below wc.heap.size wc w'→w'.cell? ⟨(bad.add (i.toNat * 5)).block,(bad.add (i.toNat * 5)).off+1,none⟩=some (.int .i64 (rd_T86 bs i).f1)∧w'.cell? ⟨(bad.add (i.toNat * 5)).block,(bad.add (i.toNat * 5)).off+3,none⟩=some (.slice bA3 (rd_T86 bs i).f3.length bc3)∧w'.cell? ⟨(bad.add (i.toNat * 5)).block,(bad.add (i.toNat * 5)).off+4,none⟩=some (.slice bA4 (rd_T86 bs i).f4.length bc4)∧w'.cell? ⟨(bad.add ((i.toNat - 1) * 5)).block,(bad.add ((i.toNat - 1) * 5)).off+1,none⟩=some (.int .i64 (rd_T86 bs (i - 1)).f1)):=Aside0.mk (fun w' hw=>⟨(HCL.out w' (below_step HBc.out hw)).2.1,(HCL.out w' (below_step HBc.out hw)).2.2.2.1,(HCL.out w' (below_step HBc.out hw)).2.2.2.2,((below_step HBc.out hw).cell (World.block_lt_of_cell? w _ bx1)).trans bx1⟩);clear hasc bx0 bx1 bx2 bx3 bx4 bl3_ bg3_ bl4_ bg4_ hi0;have m1:=M1.out;have n2:=N2.out;go_upto_region 9 with fail
      refine start_ (n:=76) (S:=fun w'=>w'.cell? ⟨(bad.add (i.toNat * 5)).block,(bad.add (i.toNat * 5)).off+1,none⟩=some (.int .i64 (rd_T86 bs i).f1)∧w'.cell? ⟨(bad.add (i.toNat * 5)).block,(bad.add (i.toNat * 5)).off+3,none⟩=some (.slice bA3 (rd_T86 bs i).f3.length bc3)∧w'.cell? ⟨(bad.add (i.toNat * 5)).block,(bad.add (i.toNat * 5)).off+4,none⟩=some (.slice bA4 (rd_T86 bs i).f4.length bc4)∧w'.cell? ⟨(bad.add ((i.toNat - 1) * 5)).block,(bad.add ((i.toNat - 1) * 5)).off+1,none⟩=some (.int .i64 (rd_T86 bs (i - 1)).f1)) (ds:=[]) #[false,false,false,false,false,false,false,false,false,false,false,false,false,false,false,false,false,false,false,false,false,false,false,false,false,false,false,false,false,false,false,false,false,false,false,false,false,false,false,false,false,false,false,false,false,false,false,false,false,false,false,false,false,false,false,false,false,false,false,false,false,false,false,false,false,false,false,false,false,false,false,false,false,false,false,false] (by kernel_rfl) rfl rfl ⟨(HF.out _ (below_drew1 (Below.refl wc.heap.size wc))).1,(HF.out _ (below_drew1 (Below.refl wc.heap.size wc))).2.1,(HF.out _ (below_drew1 (Below.refl wc.heap.size wc))).2.2.1,(HF.out _ (below_drew1 (Below.refl wc.heap.size wc))).2.2.2⟩ (fun hHeld=>?_);refine with_tabW deadboltlaw6_stands.tab9 deadboltlaw6_stands.bits9 (fun HT_ HW_=>?_);refine pure_ (i:=0) (N:=some 47) (v:=?_) (a':=?_) (bt_ 76 1) rfl rfl (any_of HT_.out (by kernel_rfl)) (fun _ _ _ h=>h) (Or.inl ⟨by rfl,?_⟩) ?_ ?_
      rotate_left;·intro w';go_simp;with_reducible rfl
      rotate_left;·simp only [Act.put,List.setIfInBounds_toArray,List.set_cons_zero,List.set_cons_succ,i64_w,i32_w];rfl
      refine pure_ (i:=1) (N:=some 48) (v:=?_) (a':=?_) (bt_ 76 3) rfl rfl (any_of HT_.out (by kernel_rfl)) (fun _ _ _ h=>h) (Or.inl ⟨by rfl,?_⟩) ?_ ?_
      rotate_left;·intro w';go_simp;with_reducible rfl
      rotate_left;·simp only [Act.put,List.setIfInBounds_toArray,List.set_cons_zero,List.set_cons_succ,i64_w,i32_w];rfl
      refine pure_ (i:=2) (N:=some 49) (v:=?_) (a':=?_) (bt_ 76 7) rfl rfl (any_of HT_.out (by kernel_rfl)) (fun _ _ _ h=>h) (Or.inl ⟨by rfl,?_⟩) ?_ ?_
      rotate_left;·intro w';go_simp;with_reducible rfl
      rotate_left;·simp only [Act.put,List.setIfInBounds_toArray,List.set_cons_zero,List.set_cons_succ,i64_w,i32_w];rfl
      refine pure_ (i:=3) (N:=some 50) (v:=?_) (a':=?_) (bt_ 76 15) rfl rfl (any_of HT_.out (by kernel_rfl)) (fun _ _ _ h=>h) (Or.inl ⟨by rfl,?_⟩) ?_ ?_
      rotate_left;·intro w';go_simp;with_reducible rfl
      rotate_left;·simp only [Act.put,List.setIfInBounds_toArray,List.set_cons_zero,List.set_cons_succ,i64_w,i32_w];rfl
      refine take_ (i:=4) (N:=some 51) (v:=?_) (a':=?_) (bt_ 76 31) rfl rfl (take_ofW HT_.out HW_.out (by kernel_rfl)) (fun _ _ _ h=>h) (Or.inl ⟨by rfl,?_⟩) hHeld ?_ ?_
      rotate_left
      ·rintro w' ⟨s0,s1,s2,s3⟩
       go_simp;with_reducible rfl
      rotate_left;·simp only [Act.put,List.setIfInBounds_toArray,List.set_cons_zero,List.set_cons_succ,i64_w,i32_w];rfl
      refine pure_ (i:=5) (N:=some 52) (v:=?_) (a':=?_) (bt_ 76 63) rfl rfl (any_of HT_.out (by kernel_rfl)) (fun _ _ _ h=>h) (Or.inl ⟨by rfl,?_⟩) ?_ ?_
      rotate_left;·intro w';go_simp;with_reducible rfl
      rotate_left;·simp only [Act.put,List.setIfInBounds_toArray,List.set_cons_zero,List.set_cons_succ,i64_w,i32_w];rfl
      refine pure_ (i:=6) (N:=some 53) (v:=?_) (a':=?_) (bt_ 76 127) rfl rfl (any_of HT_.out (by kernel_rfl)) (fun _ _ _ h=>h) (Or.inl ⟨by rfl,?_⟩) ?_ ?_
      rotate_left;·intro w';go_simp;with_reducible rfl
      rotate_left;·simp only [Act.put,List.setIfInBounds_toArray,List.set_cons_zero,List.set_cons_succ,i64_w,i32_w];rfl
      refine pure_ (i:=7) (N:=some 54) (v:=?_) (a':=?_) (bt_ 76 255) rfl rfl (any_of HT_.out (by kernel_rfl)) (fun _ _ _ h=>h) (Or.inl ⟨by rfl,?_⟩) ?_ ?_
      rotate_left;·intro w';go_simp;with_reducible rfl
      rotate_left;·simp only [Act.put,List.setIfInBounds_toArray,List.set_cons_zero,List.set_cons_succ,i64_w,i32_w];rfl
      refine pure_ (i:=8) (N:=some 55) (v:=?_) (a':=?_) (bt_ 76 511) rfl rfl (any_of HT_.out (by kernel_rfl)) (fun _ _ _ h=>h) (Or.inl ⟨by rfl,?_⟩) ?_ ?_
      rotate_left;·intro w';go_simp;with_reducible rfl
      rotate_left;·simp only [Act.put,List.setIfInBounds_toArray,List.set_cons_zero,List.set_cons_succ,i64_w,i32_w];rfl
      refine pure_ (i:=9) (N:=some 56) (v:=?_) (a':=?_) (bt_ 76 1023) rfl rfl (any_of HT_.out (by kernel_rfl)) (fun _ _ _ h=>h) (Or.inl ⟨by rfl,?_⟩) ?_ ?_
      rotate_left;·intro w';go_simp;with_reducible rfl
      rotate_left;·simp only [Act.put,List.setIfInBounds_toArray,List.set_cons_zero,List.set_cons_succ,i64_w,i32_w];rfl
      refine pure_ (i:=10) (N:=some 57) (v:=?_) (a':=?_) (bt_ 76 2047) rfl rfl (any_of HT_.out (by kernel_rfl)) (fun _ _ _ h=>h) (Or.inl ⟨by rfl,?_⟩) ?_ ?_
      rotate_left;·intro w';go_simp;with_reducible rfl
      rotate_left;·simp only [Act.put,List.setIfInBounds_toArray,List.set_cons_zero,List.set_cons_succ,i64_w,i32_w];rfl
      refine pure_ (i:=12) (N:=some 59) (v:=?_) (a':=?_) (bt_ 76 6143) rfl rfl (any_of HT_.out (by kernel_rfl)) (fun _ _ _ h=>h) (Or.inl ⟨by rfl,?_⟩) ?_ ?_
      rotate_left;·intro w';go_simp;with_reducible rfl
      rotate_left;·simp only [Act.put,List.setIfInBounds_toArray,List.set_cons_zero,List.set_cons_succ,i64_w,i32_w];rfl
      refine pure_ (i:=13) (N:=some 60) (v:=?_) (a':=?_) (bt_ 76 14335) rfl rfl (any_of HT_.out (by kernel_rfl)) (fun _ _ _ h=>h) (Or.inl ⟨by rfl,?_⟩) ?_ ?_
      rotate_left;·intro w';go_simp;with_reducible rfl
      rotate_left;·simp only [Act.put,List.setIfInBounds_toArray,List.set_cons_zero,List.set_cons_succ,i64_w,i32_w];rfl
      refine pure_ (i:=15) (N:=some 62) (v:=?_) (a':=?_) (bt_ 76 47103) rfl rfl (any_of HT_.out (by kernel_rfl)) (fun _ _ _ h=>h) (Or.inl ⟨by rfl,?_⟩) ?_ ?_
      rotate_left;·intro w';go_simp;with_reducible rfl
      rotate_left;·simp only [Act.put,List.setIfInBounds_toArray,List.set_cons_zero,List.set_cons_succ,i64_w,i32_w];rfl
      refine pure_ (i:=16) (N:=some 63) (v:=?_) (a':=?_) (bt_ 76 112639) rfl rfl (any_of HT_.out (by kernel_rfl)) (fun _ _ _ h=>h) (Or.inl ⟨by rfl,?_⟩) ?_ ?_
      rotate_left;·intro w';go_simp;with_reducible rfl
      rotate_left;·simp only [Act.put,List.setIfInBounds_toArray,List.set_cons_zero,List.set_cons_succ,i64_w,i32_w];rfl
      refine take_ (i:=11) (N:=some 58) (v:=?_) (a':=?_) (bt_ 76 114687) rfl rfl (take_ofW HT_.out HW_.out (by kernel_rfl)) (fun _ _ _ h=>h) (Or.inl ⟨by rfl,?_⟩) hHeld ?_ ?_
      rotate_left
      ·rintro w' ⟨s0,s1,s2,s3⟩
       go_simp;with_reducible rfl
      rotate_left;·simp only [Act.put,List.setIfInBounds_toArray,List.set_cons_zero,List.set_cons_succ,i64_w,i32_w];rfl
      refine pure_ (i:=14) (N:=some 61) (v:=?_) (a':=?_) (bt_ 76 131071) rfl rfl (any_of HT_.out (by kernel_rfl)) (fun _ _ _ h=>h) (Or.inl ⟨by rfl,?_⟩) ?_ ?_
      rotate_left;·intro w';go_simp;with_reducible rfl
      rotate_left;·simp only [Act.put,List.setIfInBounds_toArray,List.set_cons_zero,List.set_cons_succ,i64_w,i32_w];rfl
      refine pure_ (i:=17) (N:=some 64) (v:=?_) (a':=?_) (bt_ 76 262143) rfl rfl (any_of HT_.out (by kernel_rfl)) (fun _ _ _ h=>h) (Or.inl ⟨by rfl,?_⟩) ?_ ?_
      rotate_left;·intro w';go_simp;with_reducible rfl
      rotate_left;·simp only [Act.put,List.setIfInBounds_toArray,List.set_cons_zero,List.set_cons_succ,i64_w,i32_w];rfl
      refine pure_ (i:=18) (N:=some 65) (v:=?_) (a':=?_) (bt_ 76 524287) rfl rfl (any_of HT_.out (by kernel_rfl)) (fun _ _ _ h=>h) (Or.inl ⟨by rfl,?_⟩) ?_ ?_
      rotate_left;·intro w';go_simp;with_reducible rfl
      rotate_left;·simp only [Act.put,List.setIfInBounds_toArray,List.set_cons_zero,List.set_cons_succ,i64_w,i32_w];rfl
      refine pure_ (i:=19) (N:=some 66) (v:=?_) (a':=?_) (bt_ 76 1048575) rfl rfl (any_of HT_.out (by kernel_rfl)) (fun _ _ _ h=>h) (Or.inl ⟨by rfl,?_⟩) ?_ ?_
      rotate_left;·intro w';go_simp;with_reducible rfl
      rotate_left;·simp only [Act.put,List.setIfInBounds_toArray,List.set_cons_zero,List.set_cons_succ,i64_w,i32_w];rfl
      refine pure_ (i:=20) (N:=some 67) (v:=?_) (a':=?_) (bt_ 76 2097151) rfl rfl (any_of HT_.out (by kernel_rfl)) (fun _ _ _ h=>h) (Or.inl ⟨by rfl,?_⟩) ?_ ?_
      rotate_left;·intro w';go_simp;with_reducible rfl
      rotate_left;·simp only [Act.put,List.setIfInBounds_toArray,List.set_cons_zero,List.set_cons_succ,i64_w,i32_w];rfl
      refine pure_ (i:=21) (N:=some 68) (v:=?_) (a':=?_) (bt_ 76 4194303) rfl rfl (any_of HT_.out (by kernel_rfl)) (fun _ _ _ h=>h) (Or.inl ⟨by rfl,?_⟩) ?_ ?_
      rotate_left;·intro w';go_simp;with_reducible rfl
      rotate_left;·simp only [Act.put,List.setIfInBounds_toArray,List.set_cons_zero,List.set_cons_succ,i64_w,i32_w];rfl
      refine pure_ (i:=22) (N:=some 69) (v:=?_) (a':=?_) (bt_ 76 8388607) rfl rfl (any_of HT_.out (by kernel_rfl)) (fun _ _ _ h=>h) (Or.inl ⟨by rfl,?_⟩) ?_ ?_
      rotate_left;·intro w';go_simp;with_reducible rfl
      rotate_left;·simp only [Act.put,List.setIfInBounds_toArray,List.set_cons_zero,List.set_cons_succ,i64_w,i32_w];rfl
      refine pure_ (i:=23) (N:=some 70) (v:=?_) (a':=?_) (bt_ 76 16777215) rfl rfl (any_of HT_.out (by kernel_rfl)) (fun _ _ _ h=>h) (Or.inl ⟨by rfl,?_⟩) ?_ ?_
      rotate_left;·intro w';go_simp;with_reducible rfl
      rotate_left;·simp only [Act.put,List.setIfInBounds_toArray,List.set_cons_zero,List.set_cons_succ,i64_w,i32_w];rfl
      refine pure_ (i:=24) (N:=some 71) (v:=?_) (a':=?_) (bt_ 76 33554431) rfl rfl (any_of HT_.out (by kernel_rfl)) (fun _ _ _ h=>h) (Or.inl ⟨by rfl,?_⟩) ?_ ?_
      rotate_left;·intro w';go_simp;with_reducible rfl
      rotate_left;·simp only [Act.put,List.setIfInBounds_toArray,List.set_cons_zero,List.set_cons_succ,i64_w,i32_w];rfl
      refine pure_ (i:=26) (N:=some 73) (v:=?_) (a':=?_) (bt_ 76 100663295) rfl rfl (any_of HT_.out (by kernel_rfl)) (fun _ _ _ h=>h) (Or.inl ⟨by rfl,?_⟩) ?_ ?_
      rotate_left;·intro w';go_simp;with_reducible rfl
      rotate_left;·simp only [Act.put,List.setIfInBounds_toArray,List.set_cons_zero,List.set_cons_succ,i64_w,i32_w];rfl
      refine pure_ (i:=27) (N:=some 74) (v:=?_) (a':=?_) (bt_ 76 234881023) rfl rfl (any_of HT_.out (by kernel_rfl)) (fun _ _ _ h=>h) (Or.inl ⟨by rfl,?_⟩) ?_ ?_
      rotate_left;·intro w';go_simp;with_reducible rfl
      rotate_left;·simp only [Act.put,List.setIfInBounds_toArray,List.set_cons_zero,List.set_cons_succ,i64_w,i32_w];rfl
      refine pure_ (i:=28) (N:=some 75) (v:=?_) (a':=?_) (bt_ 76 503316479) rfl rfl (any_of HT_.out (by kernel_rfl)) (fun _ _ _ h=>h) (Or.inl ⟨by rfl,?_⟩) ?_ ?_
      rotate_left;·intro w';go_simp;with_reducible rfl
      rotate_left;·simp only [Act.put,List.setIfInBounds_toArray,List.set_cons_zero,List.set_cons_succ,i64_w,i32_w];rfl
      refine pure_ (i:=29) (N:=some 76) (v:=?_) (a':=?_) (bt_ 76 1040187391) rfl rfl (any_of HT_.out (by kernel_rfl)) (fun _ _ _ h=>h) (Or.inl ⟨by rfl,?_⟩) ?_ ?_
      rotate_left;·intro w';go_simp;with_reducible rfl
      rotate_left;·simp only [Act.put,List.setIfInBounds_toArray,List.set_cons_zero,List.set_cons_succ,i64_w,i32_w];rfl
      refine pure_ (i:=31) (N:=some 78) (v:=?_) (a':=?_) (bt_ 76 3187671039) rfl rfl (any_of HT_.out (by kernel_rfl)) (fun _ _ _ h=>h) (Or.inl ⟨by rfl,?_⟩) ?_ ?_
      rotate_left;·intro w';go_simp;with_reducible rfl
      rotate_left;·simp only [Act.put,List.setIfInBounds_toArray,List.set_cons_zero,List.set_cons_succ,i64_w,i32_w];rfl
      refine pure_ (i:=32) (N:=some 79) (v:=?_) (a':=?_) (bt_ 76 7482638335) rfl rfl (any_of HT_.out (by kernel_rfl)) (fun _ _ _ h=>h) (Or.inl ⟨by rfl,?_⟩) ?_ ?_
      rotate_left;·intro w';go_simp;with_reducible rfl
      rotate_left;·simp only [Act.put,List.setIfInBounds_toArray,List.set_cons_zero,List.set_cons_succ,i64_w,i32_w];rfl
      refine pure_ (i:=35) (N:=some 82) (v:=?_) (a':=?_) (bt_ 76 41842376703) rfl rfl (any_of HT_.out (by kernel_rfl)) (fun _ _ _ h=>h) (Or.inl ⟨by rfl,?_⟩) ?_ ?_
      rotate_left;·intro w';go_simp;with_reducible rfl
      rotate_left;·simp only [Act.put,List.setIfInBounds_toArray,List.set_cons_zero,List.set_cons_succ,i64_w,i32_w];rfl
      refine take_ (i:=25) (N:=some 72) (v:=?_) (a':=?_) (bt_ 76 41875931135) rfl rfl (take_ofW HT_.out HW_.out (by kernel_rfl)) (fun _ _ _ h=>h) (Or.inl ⟨by rfl,?_⟩) hHeld ?_ ?_
      rotate_left
      ·rintro w' ⟨s0,s1,s2,s3⟩
       go_simp;with_reducible rfl
      rotate_left;·simp only [Act.put,List.setIfInBounds_toArray,List.set_cons_zero,List.set_cons_succ,i64_w,i32_w];rfl
      refine take_ (i:=30) (N:=some 77) (v:=?_) (a':=?_) (bt_ 76 42949672959) rfl rfl (take_ofW HT_.out HW_.out (by kernel_rfl)) (fun _ _ _ h=>h) (Or.inl ⟨by rfl,?_⟩) hHeld ?_ ?_
      rotate_left
      ·rintro w' ⟨s0,s1,s2,s3⟩
       go_simp;with_reducible rfl
      rotate_left;·simp only [Act.put,List.setIfInBounds_toArray,List.set_cons_zero,List.set_cons_succ,i64_w,i32_w];rfl
      refine pure_ (i:=33) (N:=some 80) (v:=?_) (a':=?_) (bt_ 76 51539607551) rfl rfl (any_of HT_.out (by kernel_rfl)) (fun _ _ _ h=>h) (Or.inl ⟨by rfl,?_⟩) ?_ ?_
      rotate_left;·intro w';go_simp;with_reducible rfl
      rotate_left;·simp only [Act.put,List.setIfInBounds_toArray,List.set_cons_zero,List.set_cons_succ,i64_w,i32_w];rfl
      refine pure_ (i:=34) (N:=some 81) (v:=?_) (a':=?_) (bt_ 76 68719476735) rfl rfl (any_of HT_.out (by kernel_rfl)) (fun _ _ _ h=>h) (Or.inl ⟨by rfl,?_⟩) ?_ ?_
      rotate_left;·intro w';go_simp;with_reducible rfl
      rotate_left;·simp only [Act.put,List.setIfInBounds_toArray,List.set_cons_zero,List.set_cons_succ,i64_w,i32_w];rfl
      refine pure_ (i:=36) (N:=some 83) (v:=?_) (a':=?_) (bt_ 76 137438953471) rfl rfl (any_of HT_.out (by kernel_rfl)) (fun _ _ _ h=>h) (Or.inl ⟨by rfl,?_⟩) ?_ ?_
      rotate_left;·intro w';go_simp;with_reducible rfl
      rotate_left;·simp only [Act.put,List.setIfInBounds_toArray,List.set_cons_zero,List.set_cons_succ,i64_w,i32_w];rfl
      refine pure_ (i:=37) (N:=some 84) (v:=?_) (a':=?_) (bt_ 76 274877906943) rfl rfl (any_of HT_.out (by kernel_rfl)) (fun _ _ _ h=>h) (Or.inl ⟨by rfl,?_⟩) ?_ ?_
      rotate_left;·intro w';go_simp;with_reducible rfl
      rotate_left;·simp only [Act.put,List.setIfInBounds_toArray,List.set_cons_zero,List.set_cons_succ,i64_w,i32_w];rfl
      refine pure_ (i:=38) (N:=some 85) (v:=?_) (a':=?_) (bt_ 76 549755813887) rfl rfl (any_of HT_.out (by kernel_rfl)) (fun _ _ _ h=>h) (Or.inl ⟨by rfl,?_⟩) ?_ ?_
      rotate_left;·intro w';go_simp;with_reducible rfl
      rotate_left;·simp only [Act.put,List.setIfInBounds_toArray,List.set_cons_zero,List.set_cons_succ,i64_w,i32_w];rfl
      refine pure_ (i:=39) (N:=some 86) (v:=?_) (a':=?_) (bt_ 76 1099511627775) rfl rfl (any_of HT_.out (by kernel_rfl)) (fun _ _ _ h=>h) (Or.inl ⟨by rfl,?_⟩) ?_ ?_
      rotate_left;·intro w';go_simp;with_reducible rfl
      rotate_left;·simp only [Act.put,List.setIfInBounds_toArray,List.set_cons_zero,List.set_cons_succ,i64_w,i32_w];rfl
      refine pure_ (i:=40) (N:=some 87) (v:=?_) (a':=?_) (bt_ 76 2199023255551) rfl rfl (any_of HT_.out (by kernel_rfl)) (fun _ _ _ h=>h) (Or.inl ⟨by rfl,?_⟩) ?_ ?_
      rotate_left;·intro w';go_simp;with_reducible rfl
      rotate_left;·simp only [Act.put,List.setIfInBounds_toArray,List.set_cons_zero,List.set_cons_succ,i64_w,i32_w];rfl
      refine pure_ (i:=41) (N:=some 88) (v:=?_) (a':=?_) (bt_ 76 4398046511103) rfl rfl (any_of HT_.out (by kernel_rfl)) (fun _ _ _ h=>h) (Or.inl ⟨by rfl,?_⟩) ?_ ?_
      rotate_left;·intro w';go_simp;with_reducible rfl
      rotate_left;·simp only [Act.put,List.setIfInBounds_toArray,List.set_cons_zero,List.set_cons_succ,i64_w,i32_w];rfl
      refine pure_ (i:=42) (N:=some 89) (v:=?_) (a':=?_) (bt_ 76 8796093022207) rfl rfl (any_of HT_.out (by kernel_rfl)) (fun _ _ _ h=>h) (Or.inl ⟨by rfl,?_⟩) ?_ ?_
      rotate_left;·intro w';go_simp;with_reducible rfl
      rotate_left;·simp only [Act.put,List.setIfInBounds_toArray,List.set_cons_zero,List.set_cons_succ,i64_w,i32_w];rfl
      refine pure_ (i:=43) (N:=some 90) (v:=?_) (a':=?_) (bt_ 76 17592186044415) rfl rfl (any_of HT_.out (by kernel_rfl)) (fun _ _ _ h=>h) (Or.inl ⟨by rfl,?_⟩) ?_ ?_
      rotate_left;·intro w';go_simp;with_reducible rfl
      rotate_left;·simp only [Act.put,List.setIfInBounds_toArray,List.set_cons_zero,List.set_cons_succ,i64_w,i32_w];rfl
      refine take_ (i:=44) (N:=some 91) (v:=?_) (a':=?_) (bt_ 76 35184372088831) rfl rfl (take_ofW HT_.out HW_.out (by kernel_rfl)) (fun _ _ _ h=>h) (Or.inl ⟨by rfl,?_⟩) hHeld ?_ ?_
      rotate_left
      ·rintro w' ⟨s0,s1,s2,s3⟩
       go_simp;with_reducible rfl
      rotate_left;·simp only [Act.put,List.setIfInBounds_toArray,List.set_cons_zero,List.set_cons_succ,i64_w,i32_w];rfl
      refine one_ (i:=45) (N:=some 92) (bt_ 76 70368744177663) rfl rfl (one_of HT_.out (by kernel_rfl)) (by decide) (fun K hK=>?_);refine goes_ Tryd.func21 (by kernel_rfl) rfl #[.string s,.slice bA3 (rd_T86 bs i).f3.length bc3] (by rfl) rfl rfl (by simp only [List.map_toArray,List.map_cons,List.map_nil];rfl) ?_
      with_reducible refine (IH.out (rd_T86 bs i).f3 _ bA3 bc3 HSZ.out.1 HST.out.2.2.2.2.2.2.1 (Kd.C_below bg3.out (below_step HBc.out (below_drew1 (Below.refl wc.heap.size wc)))) bl3.out).mono ?_
      rintro E wa ⟨rfl,hb_⟩
      refine ⟨_,rfl,?_⟩;have Hwa:Aside0 (Below wc.heap.size wc wa):=Aside0.mk (below_step (below_drew1 (Below.refl wc.heap.size wc)) hb_);clear hb_;refine hK.out _ _ ⟨(HF.out _ Hwa.out).1,(HF.out _ Hwa.out).2.1,(HF.out _ Hwa.out).2.2.1,(HF.out _ Hwa.out).2.2.2⟩ (fun hHeld=>?_);clear hK K;refine norm_ (a':=?_) ?_ ?_
      rotate_left
      ·show Act.put _ (some 92) _=_
       simp only [Act.put,List.setIfInBounds_toArray,List.set_cons_zero,List.set_cons_succ,i64_w,i32_w];rfl
      refine pure_ (i:=46) (N:=some 93) (v:=?_) (a':=?_) (bt_ 76 140737488355327) rfl rfl (any_of HT_.out (by kernel_rfl)) (fun _ _ _ h=>h) (Or.inl ⟨by rfl,?_⟩) ?_ ?_
      rotate_left;·intro w';go_simp;with_reducible rfl
      rotate_left;·simp only [Act.put,List.setIfInBounds_toArray,List.set_cons_zero,List.set_cons_succ,i64_w,i32_w];rfl
      refine pure_ (i:=47) (N:=some 94) (v:=?_) (a':=?_) (bt_ 76 281474976710655) rfl rfl (any_of HT_.out (by kernel_rfl)) (fun _ _ _ h=>h) (Or.inl ⟨by rfl,?_⟩) ?_ ?_
      rotate_left;·intro w';go_simp;with_reducible rfl
      rotate_left;·simp only [Act.put,List.setIfInBounds_toArray,List.set_cons_zero,List.set_cons_succ,i64_w,i32_w];rfl
      refine pure_ (i:=48) (N:=some 95) (v:=?_) (a':=?_) (bt_ 76 562949953421311) rfl rfl (any_of HT_.out (by kernel_rfl)) (fun _ _ _ h=>h) (Or.inl ⟨by rfl,?_⟩) ?_ ?_
      rotate_left;·intro w';go_simp;with_reducible rfl
      rotate_left;·simp only [Act.put,List.setIfInBounds_toArray,List.set_cons_zero,List.set_cons_succ,i64_w,i32_w];rfl
      refine pure_ (i:=49) (N:=some 96) (v:=?_) (a':=?_) (bt_ 76 1125899906842623) rfl rfl (any_of HT_.out (by kernel_rfl)) (fun _ _ _ h=>h) (Or.inl ⟨by rfl,?_⟩) ?_ ?_
      rotate_left;·intro w';go_simp;with_reducible rfl
      rotate_left;·simp only [Act.put,List.setIfInBounds_toArray,List.set_cons_zero,List.set_cons_succ,i64_w,i32_w];rfl
      refine pure_ (i:=50) (N:=some 97) (v:=?_) (a':=?_) (bt_ 76 2251799813685247) rfl rfl (any_of HT_.out (by kernel_rfl)) (fun _ _ _ h=>h) (Or.inl ⟨by rfl,?_⟩) ?_ ?_
      rotate_left;·intro w';go_simp;with_reducible rfl
      rotate_left;·simp only [Act.put,List.setIfInBounds_toArray,List.set_cons_zero,List.set_cons_succ,i64_w,i32_w];rfl
      refine pure_ (i:=51) (N:=some 98) (v:=?_) (a':=?_) (bt_ 76 4503599627370495) rfl rfl (any_of HT_.out (by kernel_rfl)) (fun _ _ _ h=>h) (Or.inl ⟨by rfl,?_⟩) ?_ ?_
      rotate_left;·intro w';go_simp;with_reducible rfl
      rotate_left;·simp only [Act.put,List.setIfInBounds_toArray,List.set_cons_zero,List.set_cons_succ,i64_w,i32_w];rfl
      refine pure_ (i:=52) (N:=some 99) (v:=?_) (a':=?_) (bt_ 76 9007199254740991) rfl rfl (any_of HT_.out (by kernel_rfl)) (fun _ _ _ h=>h) (Or.inl ⟨by rfl,?_⟩) ?_ ?_
      rotate_left;·intro w';go_simp;with_reducible rfl
      rotate_left;·simp only [Act.put,List.setIfInBounds_toArray,List.set_cons_zero,List.set_cons_succ,i64_w,i32_w];rfl
      refine pure_ (i:=53) (N:=some 100) (v:=?_) (a':=?_) (bt_ 76 18014398509481983) rfl rfl (any_of HT_.out (by kernel_rfl)) (fun _ _ _ h=>h) (Or.inl ⟨by rfl,?_⟩) ?_ ?_
      rotate_left;·intro w';go_simp;with_reducible rfl
      rotate_left;·simp only [Act.put,List.setIfInBounds_toArray,List.set_cons_zero,List.set_cons_succ,i64_w,i32_w];rfl
      refine take_ (i:=54) (N:=some 101) (v:=?_) (a':=?_) (bt_ 76 36028797018963967) rfl rfl (take_ofW HT_.out HW_.out (by kernel_rfl)) (fun _ _ _ h=>h) (Or.inl ⟨by rfl,?_⟩) hHeld ?_ ?_
      rotate_left
      ·rintro w' ⟨s0,s1,s2,s3⟩
       go_simp;with_reducible rfl
      rotate_left;·simp only [Act.put,List.setIfInBounds_toArray,List.set_cons_zero,List.set_cons_succ,i64_w,i32_w];rfl
      refine one_ (i:=55) (N:=some 102) (bt_ 76 72057594037927935) rfl rfl (one_of HT_.out (by kernel_rfl)) (by decide) (fun K hK=>?_);refine goes_ Tryd.func21 (by kernel_rfl) rfl #[.string s,.slice bA4 (rd_T86 bs i).f4.length bc4] (by rfl) rfl rfl (by simp only [List.map_toArray,List.map_cons,List.map_nil];rfl) ?_
      with_reducible refine (IH.out (rd_T86 bs i).f4 _ bA4 bc4 HSZ.out.2 HST.out.2.2.2.2.2.2.2 (Kd.C_below bg4.out (below_step HBc.out Hwa.out)) bl4.out).mono ?_
      rintro E wb ⟨rfl,hb_⟩
      refine ⟨_,rfl,?_⟩;have Hwb:Aside0 (Below wc.heap.size wc wb):=Aside0.mk (below_step Hwa.out hb_);clear hb_;refine hK.out _ _ ⟨(HF.out _ Hwb.out).1,(HF.out _ Hwb.out).2.1,(HF.out _ Hwb.out).2.2.1,(HF.out _ Hwb.out).2.2.2⟩ (fun hHeld=>?_);clear hK K;refine norm_ (a':=?_) ?_ ?_
      rotate_left
      ·show Act.put _ (some 102) _=_
       simp only [Act.put,List.setIfInBounds_toArray,List.set_cons_zero,List.set_cons_succ,i64_w,i32_w];rfl
      refine pure_ (i:=56) (N:=some 103) (v:=?_) (a':=?_) (bt_ 76 144115188075855871) rfl rfl (any_of HT_.out (by kernel_rfl)) (fun _ _ _ h=>h) (Or.inl ⟨by rfl,?_⟩) ?_ ?_
      rotate_left;·intro w';go_simp;with_reducible rfl
      rotate_left;·simp only [Act.put,List.setIfInBounds_toArray,List.set_cons_zero,List.set_cons_succ,i64_w,i32_w];rfl
      refine pure_ (i:=57) (N:=some 104) (v:=?_) (a':=?_) (bt_ 76 288230376151711743) rfl rfl (any_of HT_.out (by kernel_rfl)) (fun _ _ _ h=>h) (Or.inl ⟨by rfl,?_⟩) ?_ ?_
      rotate_left;·intro w';go_simp;with_reducible rfl
      rotate_left;·simp only [Act.put,List.setIfInBounds_toArray,List.set_cons_zero,List.set_cons_succ,i64_w,i32_w];rfl
      refine pure_ (i:=58) (N:=some 105) (v:=?_) (a':=?_) (bt_ 76 576460752303423487) rfl rfl (any_of HT_.out (by kernel_rfl)) (fun _ _ _ h=>h) (Or.inl ⟨by rfl,?_⟩) ?_ ?_
      rotate_left;·intro w';go_simp;with_reducible rfl
      rotate_left;·simp only [Act.put,List.setIfInBounds_toArray,List.set_cons_zero,List.set_cons_succ,i64_w,i32_w];rfl
      refine pure_ (i:=59) (N:=some 106) (v:=?_) (a':=?_) (bt_ 76 1152921504606846975) rfl rfl (any_of HT_.out (by kernel_rfl)) (fun _ _ _ h=>h) (Or.inl ⟨by rfl,?_⟩) ?_ ?_
      rotate_left;·intro w';go_simp;with_reducible rfl
      rotate_left;·simp only [Act.put,List.setIfInBounds_toArray,List.set_cons_zero,List.set_cons_succ,i64_w,i32_w];rfl
      refine pure_ (i:=60) (N:=some 107) (v:=?_) (a':=?_) (bt_ 76 2305843009213693951) rfl rfl (any_of HT_.out (by kernel_rfl)) (fun _ _ _ h=>h) (Or.inl ⟨by rfl,?_⟩) ?_ ?_
      rotate_left;·intro w';go_simp;with_reducible rfl
      rotate_left;·simp only [Act.put,List.setIfInBounds_toArray,List.set_cons_zero,List.set_cons_succ,i64_w,i32_w];rfl
      refine pure_ (i:=61) (N:=some 108) (v:=?_) (a':=?_) (bt_ 76 4611686018427387903) rfl rfl (any_of HT_.out (by kernel_rfl)) (fun _ _ _ h=>h) (Or.inl ⟨by rfl,?_⟩) ?_ ?_
      rotate_left;·intro w';go_simp;with_reducible rfl
      rotate_left;·simp only [Act.put,List.setIfInBounds_toArray,List.set_cons_zero,List.set_cons_succ,i64_w,i32_w];rfl
      refine pure_ (i:=62) (N:=some 109) (v:=?_) (a':=?_) (bt_ 76 9223372036854775807) rfl rfl (any_of HT_.out (by kernel_rfl)) (fun _ _ _ h=>h) (Or.inl ⟨by rfl,?_⟩) ?_ ?_
      rotate_left;·intro w';go_simp;with_reducible rfl
      rotate_left;·simp only [Act.put,List.setIfInBounds_toArray,List.set_cons_zero,List.set_cons_succ,i64_w,i32_w];rfl
      refine pure_ (i:=63) (N:=some 110) (v:=?_) (a':=?_) (bt_ 76 18446744073709551615) rfl rfl (any_of HT_.out (by kernel_rfl)) (fun _ _ _ h=>h) (Or.inl ⟨by rfl,?_⟩) ?_ ?_
      rotate_left;·intro w';go_simp;with_reducible rfl
      rotate_left;·simp only [Act.put,List.setIfInBounds_toArray,List.set_cons_zero,List.set_cons_succ,i64_w,i32_w];rfl
      refine pure_ (i:=64) (N:=some 111) (v:=?_) (a':=?_) (bt_ 76 36893488147419103231) rfl rfl (any_of HT_.out (by kernel_rfl)) (fun _ _ _ h=>h) (Or.inl ⟨by rfl,?_⟩) ?_ ?_
      rotate_left;·intro w';go_simp;with_reducible rfl
      rotate_left;·simp only [Act.put,List.setIfInBounds_toArray,List.set_cons_zero,List.set_cons_succ,i64_w,i32_w];rfl
      refine pure_ (i:=65) (N:=some 112) (v:=?_) (a':=?_) (bt_ 76 73786976294838206463) rfl rfl (any_of HT_.out (by kernel_rfl)) (fun _ _ _ h=>h) (Or.inl ⟨by rfl,?_⟩) ?_ ?_
      rotate_left;·intro w';go_simp;with_reducible rfl
      rotate_left;·simp only [Act.put,List.setIfInBounds_toArray,List.set_cons_zero,List.set_cons_succ,i64_w,i32_w];rfl
      refine pure_ (i:=66) (N:=some 113) (v:=?_) (a':=?_) (bt_ 76 147573952589676412927) rfl rfl (any_of HT_.out (by kernel_rfl)) (fun _ _ _ h=>h) (Or.inl ⟨by rfl,?_⟩) ?_ ?_
      rotate_left;·intro w';go_simp;with_reducible rfl
      rotate_left;·simp only [Act.put,List.setIfInBounds_toArray,List.set_cons_zero,List.set_cons_succ,i64_w,i32_w];rfl
      refine pure_ (i:=68) (N:=some 115) (v:=?_) (a':=?_) (bt_ 76 442721857769029238783) rfl rfl (any_of HT_.out (by kernel_rfl)) (fun _ _ _ h=>h) (Or.inl ⟨by rfl,?_⟩) ?_ ?_
      rotate_left;·intro w';go_simp;with_reducible rfl
      rotate_left;·simp only [Act.put,List.setIfInBounds_toArray,List.set_cons_zero,List.set_cons_succ,i64_w,i32_w];rfl
      refine pure_ (i:=69) (N:=some 116) (v:=?_) (a':=?_) (bt_ 76 1033017668127734890495) rfl rfl (any_of HT_.out (by kernel_rfl)) (fun _ _ _ h=>h) (Or.inl ⟨by rfl,?_⟩) ?_ ?_
      rotate_left;·intro w';go_simp;with_reducible rfl
      rotate_left;·simp only [Act.put,List.setIfInBounds_toArray,List.set_cons_zero,List.set_cons_succ,i64_w,i32_w];rfl
      refine pure_ (i:=70) (N:=some 117) (v:=?_) (a':=?_) (bt_ 76 2213609288845146193919) rfl rfl (any_of HT_.out (by kernel_rfl)) (fun _ _ _ h=>h) (Or.inl ⟨by rfl,?_⟩) ?_ ?_
      rotate_left;·intro w';go_simp;with_reducible rfl
      rotate_left;·simp only [Act.put,List.setIfInBounds_toArray,List.set_cons_zero,List.set_cons_succ,i64_w,i32_w];rfl
      refine pure_ (i:=71) (N:=some 118) (v:=?_) (a':=?_) (bt_ 76 4574792530279968800767) rfl rfl (any_of HT_.out (by kernel_rfl)) (fun _ _ _ h=>h) (Or.inl ⟨by rfl,?_⟩) ?_ ?_
      rotate_left;·intro w';go_simp;with_reducible rfl
      rotate_left;·simp only [Act.put,List.setIfInBounds_toArray,List.set_cons_zero,List.set_cons_succ,i64_w,i32_w];rfl
      refine take_ (i:=67) (N:=some 114) (v:=?_) (a':=?_) (bt_ 76 4722366482869645213695) rfl rfl (take_ofW HT_.out HW_.out (by kernel_rfl)) (fun _ _ _ h=>h) (Or.inl ⟨by rfl,?_⟩) hHeld ?_ ?_
      rotate_left
      ·rintro w' ⟨s0,s1,s2,s3⟩
       go_simp;with_reducible rfl
      rotate_left;·simp only [Act.put,List.setIfInBounds_toArray,List.set_cons_zero,List.set_cons_succ,i64_w,i32_w];rfl
      refine take_ (i:=72) (N:=some 119) (v:=?_) (a':=?_) (bt_ 76 9444732965739290427391) rfl rfl (take_ofW HT_.out HW_.out (by kernel_rfl)) (fun _ _ _ h=>h) (Or.inl ⟨by rfl,?_⟩) hHeld ?_ ?_
      rotate_left
      ·rintro w' ⟨s0,s1,s2,s3⟩
       go_simp;with_reducible rfl
      rotate_left;·simp only [Act.put,List.setIfInBounds_toArray,List.set_cons_zero,List.set_cons_succ,i64_w,i32_w];rfl
      refine pure_ (i:=73) (N:=some 120) (v:=?_) (a':=?_) (bt_ 76 18889465931478580854783) rfl rfl (any_of HT_.out (by kernel_rfl)) (fun _ _ _ h=>h) (Or.inl ⟨by rfl,?_⟩) ?_ ?_
      rotate_left;·intro w';go_simp;with_reducible rfl
      rotate_left;·simp only [Act.put,List.setIfInBounds_toArray,List.set_cons_zero,List.set_cons_succ,i64_w,i32_w];rfl
      refine pure_ (i:=74) (N:=some 121) (v:=?_) (a':=?_) (bt_ 76 37778931862957161709567) rfl rfl (any_of HT_.out (by kernel_rfl)) (fun _ _ _ h=>h) (Or.inl ⟨by rfl,?_⟩) ?_ ?_
      rotate_left;·intro w';go_simp;with_reducible rfl
      rotate_left;·simp only [Act.put,List.setIfInBounds_toArray,List.set_cons_zero,List.set_cons_succ,i64_w,i32_w];rfl
      refine pure_ (i:=75) (N:=some 122) (v:=?_) (a':=?_) (bt_ 76 75557863725914323419135) rfl rfl (any_of HT_.out (by kernel_rfl)) (fun _ _ _ h=>h) (Or.inl ⟨by rfl,?_⟩) ?_ ?_
      rotate_left;·intro w';go_simp;with_reducible rfl
      rotate_left;·simp only [Act.put,List.setIfInBounds_toArray,List.set_cons_zero,List.set_cons_succ,i64_w,i32_w];rfl
      refine done_ (done_of HT_.out (by kernel_rfl)) ?_
      go_wp2_with fail
      go_roundg k1
      case rel=>exact ⟨i+1,by rw [show wrap64 (i+1)=i+1 from w64 (by have:=HP.out;have:=HX.out.2.1;clear m1 n2;omega)],⟨by have:=HP.out;clear m1 n2;omega,by have:=HP.out;have:=HI.out;clear m1 n2;omega,by have:=HP.out;have:=HI.out;clear m1 n2;omega⟩,⟨below_step HBc.out Hwb.out⟩⟩
      case measure=>clear m1 n2;omega
     ·have n0:decide (i>0)=false:=decide_eq_false hi0;have n1:decide (0<i)=false:=n0;have HF:Aside0 (∀ w',Below wc.heap.size wc w'→w'.cell? ⟨(bad.add (i.toNat * 5)).block,(bad.add (i.toNat * 5)).off+1,none⟩=some (.int .i64 (rd_T86 bs i).f1)∧w'.cell? ⟨(bad.add (i.toNat * 5)).block,(bad.add (i.toNat * 5)).off+3,none⟩=some (.slice bA3 (rd_T86 bs i).f3.length bc3)∧w'.cell? ⟨(bad.add (i.toNat * 5)).block,(bad.add (i.toNat * 5)).off+4,none⟩=some (.slice bA4 (rd_T86 bs i).f4.length bc4)):=Aside0.mk (fun w' hw=>⟨(HCL.out w' (below_step HBc.out hw)).2.1,(HCL.out w' (below_step HBc.out hw)).2.2.2.1,(HCL.out w' (below_step HBc.out hw)).2.2.2.2⟩);clear hi0;have m1:=M1.out;go_upto_region 9 with fail
      refine start_ (n:=76) (S:=fun w'=>w'.cell? ⟨(bad.add (i.toNat * 5)).block,(bad.add (i.toNat * 5)).off+1,none⟩=some (.int .i64 (rd_T86 bs i).f1)∧w'.cell? ⟨(bad.add (i.toNat * 5)).block,(bad.add (i.toNat * 5)).off+3,none⟩=some (.slice bA3 (rd_T86 bs i).f3.length bc3)∧w'.cell? ⟨(bad.add (i.toNat * 5)).block,(bad.add (i.toNat * 5)).off+4,none⟩=some (.slice bA4 (rd_T86 bs i).f4.length bc4)) (ds:=[]) #[false,false,false,false,false,false,false,false,false,false,false,false,false,false,false,false,false,false,false,false,false,false,false,false,false,false,false,false,false,false,false,false,false,false,false,false,false,false,false,false,false,false,false,false,false,false,false,false,false,false,false,false,false,false,false,false,false,false,false,false,false,false,false,false,false,false,false,false,false,false,false,false,false,false,false,false] (by kernel_rfl) rfl rfl ⟨(HF.out _ (below_drew1 (Below.refl wc.heap.size wc))).1,(HF.out _ (below_drew1 (Below.refl wc.heap.size wc))).2.1,(HF.out _ (below_drew1 (Below.refl wc.heap.size wc))).2.2⟩ (fun hHeld=>?_);refine with_tabW deadboltlaw6_stands.tab9 deadboltlaw6_stands.bits9 (fun HT_ HW_=>?_);refine pure_ (i:=0) (N:=some 47) (v:=?_) (a':=?_) (bt_ 76 1) rfl rfl (any_of HT_.out (by kernel_rfl)) (fun _ _ _ h=>h) (Or.inl ⟨by rfl,?_⟩) ?_ ?_
      rotate_left;·intro w';go_simp;with_reducible rfl
      rotate_left;·simp only [Act.put,List.setIfInBounds_toArray,List.set_cons_zero,List.set_cons_succ,i64_w,i32_w];rfl
      refine pure_ (i:=1) (N:=some 48) (v:=?_) (a':=?_) (bt_ 76 3) rfl rfl (any_of HT_.out (by kernel_rfl)) (fun _ _ _ h=>h) (Or.inl ⟨by rfl,?_⟩) ?_ ?_
      rotate_left;·intro w';go_simp;with_reducible rfl
      rotate_left;·simp only [Act.put,List.setIfInBounds_toArray,List.set_cons_zero,List.set_cons_succ,i64_w,i32_w];rfl
      refine pure_ (i:=2) (N:=some 49) (v:=?_) (a':=?_) (bt_ 76 7) rfl rfl (any_of HT_.out (by kernel_rfl)) (fun _ _ _ h=>h) (Or.inl ⟨by rfl,?_⟩) ?_ ?_
      rotate_left;·intro w';go_simp;with_reducible rfl
      rotate_left;·simp only [Act.put,List.setIfInBounds_toArray,List.set_cons_zero,List.set_cons_succ,i64_w,i32_w];rfl
      refine pure_ (i:=3) (N:=some 50) (v:=?_) (a':=?_) (bt_ 76 15) rfl rfl (any_of HT_.out (by kernel_rfl)) (fun _ _ _ h=>h) (Or.inl ⟨by rfl,?_⟩) ?_ ?_
      rotate_left;·intro w';go_simp;with_reducible rfl
      rotate_left;·simp only [Act.put,List.setIfInBounds_toArray,List.set_cons_zero,List.set_cons_succ,i64_w,i32_w];rfl
      refine take_ (i:=4) (N:=some 51) (v:=?_) (a':=?_) (bt_ 76 31) rfl rfl (take_ofW HT_.out HW_.out (by kernel_rfl)) (fun _ _ _ h=>h) (Or.inl ⟨by rfl,?_⟩) hHeld ?_ ?_
      rotate_left
      ·rintro w' ⟨s0,s1,s2⟩
       go_simp;with_reducible rfl
      rotate_left;·simp only [Act.put,List.setIfInBounds_toArray,List.set_cons_zero,List.set_cons_succ,i64_w,i32_w];rfl
      refine pure_ (i:=5) (N:=some 52) (v:=?_) (a':=?_) (bt_ 76 63) rfl rfl (any_of HT_.out (by kernel_rfl)) (fun _ _ _ h=>h) (Or.inl ⟨by rfl,?_⟩) ?_ ?_
      rotate_left;·intro w';go_simp;with_reducible rfl
      rotate_left;·simp only [Act.put,List.setIfInBounds_toArray,List.set_cons_zero,List.set_cons_succ,i64_w,i32_w];rfl
      refine pure_ (i:=6) (N:=some 53) (v:=?_) (a':=?_) (bt_ 76 127) rfl rfl (any_of HT_.out (by kernel_rfl)) (fun _ _ _ h=>h) (Or.inl ⟨by rfl,?_⟩) ?_ ?_
      rotate_left;·intro w';go_simp;with_reducible rfl
      rotate_left;·simp only [Act.put,List.setIfInBounds_toArray,List.set_cons_zero,List.set_cons_succ,i64_w,i32_w];rfl
      refine pure_ (i:=7) (N:=some 54) (v:=?_) (a':=?_) (bt_ 76 255) rfl rfl (any_of HT_.out (by kernel_rfl)) (fun _ _ _ h=>h) (Or.inl ⟨by rfl,?_⟩) ?_ ?_
      rotate_left;·intro w';go_simp;with_reducible rfl
      rotate_left;·simp only [Act.put,List.setIfInBounds_toArray,List.set_cons_zero,List.set_cons_succ,i64_w,i32_w];rfl
      refine pure_ (i:=8) (N:=some 55) (v:=?_) (a':=?_) (bt_ 76 511) rfl rfl (any_of HT_.out (by kernel_rfl)) (fun _ _ _ h=>h) (Or.inl ⟨by rfl,?_⟩) ?_ ?_
      rotate_left;·intro w';go_simp;with_reducible rfl
      rotate_left;·simp only [Act.put,List.setIfInBounds_toArray,List.set_cons_zero,List.set_cons_succ,i64_w,i32_w];rfl
      refine pure_ (i:=9) (N:=some 56) (v:=?_) (a':=?_) (bt_ 76 1023) rfl rfl (any_of HT_.out (by kernel_rfl)) (fun _ _ _ h=>h) (Or.inl ⟨by rfl,?_⟩) ?_ ?_
      rotate_left;·intro w';go_simp;with_reducible rfl
      rotate_left;·simp only [Act.put,List.setIfInBounds_toArray,List.set_cons_zero,List.set_cons_succ,i64_w,i32_w];rfl
      refine pure_ (i:=10) (N:=some 57) (v:=?_) (a':=?_) (bt_ 76 2047) rfl rfl (any_of HT_.out (by kernel_rfl)) (fun _ _ _ h=>h) (Or.inl ⟨by rfl,?_⟩) ?_ ?_
      rotate_left;·intro w';go_simp;with_reducible rfl
      rotate_left;·simp only [Act.put,List.setIfInBounds_toArray,List.set_cons_zero,List.set_cons_succ,i64_w,i32_w];rfl
      refine pure_ (i:=12) (N:=some 59) (v:=?_) (a':=?_) (bt_ 76 6143) rfl rfl (any_of HT_.out (by kernel_rfl)) (fun _ _ _ h=>h) (Or.inl ⟨by rfl,?_⟩) ?_ ?_
      rotate_left;·intro w';go_simp;with_reducible rfl
      rotate_left;·simp only [Act.put,List.setIfInBounds_toArray,List.set_cons_zero,List.set_cons_succ,i64_w,i32_w];rfl
      refine pure_ (i:=13) (N:=some 60) (v:=?_) (a':=?_) (bt_ 76 14335) rfl rfl (any_of HT_.out (by kernel_rfl)) (fun _ _ _ h=>h) (Or.inl ⟨by rfl,?_⟩) ?_ ?_
      rotate_left;·intro w';go_simp;with_reducible rfl
      rotate_left;·simp only [Act.put,List.setIfInBounds_toArray,List.set_cons_zero,List.set_cons_succ,i64_w,i32_w];rfl
      refine pure_ (i:=15) (N:=some 62) (v:=?_) (a':=?_) (bt_ 76 47103) rfl rfl (any_of HT_.out (by kernel_rfl)) (fun _ _ _ h=>h) (Or.inl ⟨by rfl,?_⟩) ?_ ?_
      rotate_left;·intro w';go_simp;with_reducible rfl
      rotate_left;·simp only [Act.put,List.setIfInBounds_toArray,List.set_cons_zero,List.set_cons_succ,i64_w,i32_w];rfl
      refine pure_ (i:=16) (N:=some 63) (v:=?_) (a':=?_) (bt_ 76 112639) rfl rfl (any_of HT_.out (by kernel_rfl)) (fun _ _ _ h=>h) (Or.inl ⟨by rfl,?_⟩) ?_ ?_
      rotate_left;·intro w';go_simp;with_reducible rfl
      rotate_left;·simp only [Act.put,List.setIfInBounds_toArray,List.set_cons_zero,List.set_cons_succ,i64_w,i32_w];rfl
      refine take_ (i:=11) (N:=some 58) (v:=?_) (a':=?_) (bt_ 76 114687) rfl rfl (take_ofW HT_.out HW_.out (by kernel_rfl)) (fun _ _ _ h=>h) (Or.inl ⟨by rfl,?_⟩) hHeld ?_ ?_
      rotate_left
      ·rintro w' ⟨s0,s1,s2⟩
       go_simp;with_reducible rfl
      rotate_left;·simp only [Act.put,List.setIfInBounds_toArray,List.set_cons_zero,List.set_cons_succ,i64_w,i32_w];rfl
      refine pure_ (i:=14) (N:=some 61) (v:=?_) (a':=?_) (bt_ 76 131071) rfl rfl (any_of HT_.out (by kernel_rfl)) (fun _ _ _ h=>h) (Or.inl ⟨by rfl,?_⟩) ?_ ?_
      rotate_left;·intro w';go_simp;with_reducible rfl
      rotate_left;·simp only [Act.put,List.setIfInBounds_toArray,List.set_cons_zero,List.set_cons_succ,i64_w,i32_w];rfl
      refine pure_ (i:=17) (N:=some 64) (v:=?_) (a':=?_) (bt_ 76 262143) rfl rfl (any_of HT_.out (by kernel_rfl)) (fun _ _ _ h=>h) (Or.inl ⟨by rfl,?_⟩) ?_ ?_
      rotate_left;·intro w';go_simp;with_reducible rfl
      rotate_left;·simp only [Act.put,List.setIfInBounds_toArray,List.set_cons_zero,List.set_cons_succ,i64_w,i32_w];rfl
      refine pure_ (i:=18) (N:=some 65) (v:=?_) (a':=?_) (bt_ 76 524287) rfl rfl (any_of HT_.out (by kernel_rfl)) (fun _ _ _ h=>h) (Or.inl ⟨by rfl,?_⟩) ?_ ?_
      rotate_left;·intro w';go_simp;with_reducible rfl
      rotate_left;·simp only [Act.put,List.setIfInBounds_toArray,List.set_cons_zero,List.set_cons_succ,i64_w,i32_w];rfl
      refine pure_ (i:=19) (N:=some 66) (v:=?_) (a':=?_) (bt_ 76 1048575) rfl rfl (any_of HT_.out (by kernel_rfl)) (fun _ _ _ h=>h) (Or.inl ⟨by rfl,?_⟩) ?_ ?_
      rotate_left;·intro w';go_simp;with_reducible rfl
      rotate_left;·simp only [Act.put,List.setIfInBounds_toArray,List.set_cons_zero,List.set_cons_succ,i64_w,i32_w];rfl
      refine pure_ (i:=20) (N:=some 67) (v:=?_) (a':=?_) (bt_ 76 2097151) rfl rfl (any_of HT_.out (by kernel_rfl)) (fun _ _ _ h=>h) (Or.inl ⟨by rfl,?_⟩) ?_ ?_
      rotate_left;·intro w';go_simp;with_reducible rfl
      rotate_left;·simp only [Act.put,List.setIfInBounds_toArray,List.set_cons_zero,List.set_cons_succ,i64_w,i32_w];rfl
      refine pure_ (i:=21) (N:=some 68) (v:=?_) (a':=?_) (bt_ 76 4194303) rfl rfl (any_of HT_.out (by kernel_rfl)) (fun _ _ _ h=>h) (Or.inl ⟨by rfl,?_⟩) ?_ ?_
      rotate_left;·intro w';go_simp;with_reducible rfl
      rotate_left;·simp only [Act.put,List.setIfInBounds_toArray,List.set_cons_zero,List.set_cons_succ,i64_w,i32_w];rfl
      refine pure_ (i:=22) (N:=some 69) (v:=?_) (a':=?_) (bt_ 76 8388607) rfl rfl (any_of HT_.out (by kernel_rfl)) (fun _ _ _ h=>h) (Or.inl ⟨by rfl,?_⟩) ?_ ?_
      rotate_left;·intro w';go_simp;with_reducible rfl
      rotate_left;·simp only [Act.put,List.setIfInBounds_toArray,List.set_cons_zero,List.set_cons_succ,i64_w,i32_w];rfl
      refine pure_ (i:=23) (N:=some 70) (v:=?_) (a':=?_) (bt_ 76 16777215) rfl rfl (any_of HT_.out (by kernel_rfl)) (fun _ _ _ h=>h) (Or.inl ⟨by rfl,?_⟩) ?_ ?_
      rotate_left;·intro w';go_simp;with_reducible rfl
      rotate_left;·simp only [Act.put,List.setIfInBounds_toArray,List.set_cons_zero,List.set_cons_succ,i64_w,i32_w];rfl
      refine pure_ (i:=24) (N:=some 71) (v:=?_) (a':=?_) (bt_ 76 33554431) rfl rfl (any_of HT_.out (by kernel_rfl)) (fun _ _ _ h=>h) (Or.inl ⟨by rfl,?_⟩) ?_ ?_
      rotate_left;·intro w';go_simp;with_reducible rfl
      rotate_left;·simp only [Act.put,List.setIfInBounds_toArray,List.set_cons_zero,List.set_cons_succ,i64_w,i32_w];rfl
      refine pure_ (i:=26) (N:=some 73) (v:=?_) (a':=?_) (bt_ 76 100663295) rfl rfl (any_of HT_.out (by kernel_rfl)) (fun _ _ _ h=>h) (Or.inl ⟨by rfl,?_⟩) ?_ ?_
      rotate_left;·intro w';go_simp;with_reducible rfl
      rotate_left;·simp only [Act.put,List.setIfInBounds_toArray,List.set_cons_zero,List.set_cons_succ,i64_w,i32_w];rfl
      refine pure_ (i:=27) (N:=some 74) (v:=?_) (a':=?_) (bt_ 76 234881023) rfl rfl (any_of HT_.out (by kernel_rfl)) (fun _ _ _ h=>h) (Or.inl ⟨by rfl,?_⟩) ?_ ?_
      rotate_left;·intro w';go_simp;with_reducible rfl
      rotate_left;·simp only [Act.put,List.setIfInBounds_toArray,List.set_cons_zero,List.set_cons_succ,i64_w,i32_w];rfl
      refine pure_ (i:=28) (N:=some 75) (v:=?_) (a':=?_) (bt_ 76 503316479) rfl rfl (any_of HT_.out (by kernel_rfl)) (fun _ _ _ h=>h) (Or.inl ⟨by rfl,?_⟩) ?_ ?_
      rotate_left;·intro w';go_simp;with_reducible rfl
      rotate_left;·simp only [Act.put,List.setIfInBounds_toArray,List.set_cons_zero,List.set_cons_succ,i64_w,i32_w];rfl
      refine pure_ (i:=29) (N:=some 76) (v:=?_) (a':=?_) (bt_ 76 1040187391) rfl rfl (any_of HT_.out (by kernel_rfl)) (fun _ _ _ h=>h) (Or.inl ⟨by rfl,?_⟩) ?_ ?_
      rotate_left;·intro w';go_simp;with_reducible rfl
      rotate_left;·simp only [Act.put,List.setIfInBounds_toArray,List.set_cons_zero,List.set_cons_succ,i64_w,i32_w];rfl
      refine pure_ (i:=31) (N:=some 78) (v:=?_) (a':=?_) (bt_ 76 3187671039) rfl rfl (any_of HT_.out (by kernel_rfl)) (fun _ _ _ h=>h) (Or.inl ⟨by rfl,?_⟩) ?_ ?_
      rotate_left;·intro w';go_simp;with_reducible rfl
      rotate_left;·simp only [Act.put,List.setIfInBounds_toArray,List.set_cons_zero,List.set_cons_succ,i64_w,i32_w];rfl
      refine pure_ (i:=32) (N:=some 79) (v:=?_) (a':=?_) (bt_ 76 7482638335) rfl rfl (any_of HT_.out (by kernel_rfl)) (fun _ _ _ h=>h) (Or.inl ⟨by rfl,?_⟩) ?_ ?_
      rotate_left;·intro w';go_simp;with_reducible rfl
      rotate_left;·simp only [Act.put,List.setIfInBounds_toArray,List.set_cons_zero,List.set_cons_succ,i64_w,i32_w];rfl
      refine pure_ (i:=35) (N:=some 82) (v:=?_) (a':=?_) (bt_ 76 41842376703) rfl rfl (any_of HT_.out (by kernel_rfl)) (fun _ _ _ h=>h) (Or.inl ⟨by rfl,?_⟩) ?_ ?_
      rotate_left;·intro w';go_simp;with_reducible rfl
      rotate_left;·simp only [Act.put,List.setIfInBounds_toArray,List.set_cons_zero,List.set_cons_succ,i64_w,i32_w];rfl
      refine take_ (i:=25) (N:=some 72) (v:=?_) (a':=?_) (bt_ 76 41875931135) rfl rfl (take_ofW HT_.out HW_.out (by kernel_rfl)) (fun _ _ _ h=>h) (Or.inl ⟨by rfl,?_⟩) hHeld ?_ ?_
      rotate_left
      ·rintro w' ⟨s0,s1,s2⟩
       go_simp;with_reducible rfl
      rotate_left;·simp only [Act.put,List.setIfInBounds_toArray,List.set_cons_zero,List.set_cons_succ,i64_w,i32_w];rfl
      refine take_ (i:=30) (N:=some 77) (v:=?_) (a':=?_) (bt_ 76 42949672959) rfl rfl (take_ofW HT_.out HW_.out (by kernel_rfl)) (fun _ _ _ h=>h) (Or.inl ⟨by rfl,?_⟩) hHeld ?_ ?_
      rotate_left
      ·rintro w' ⟨s0,s1,s2⟩
       go_simp;with_reducible rfl
      rotate_left;·simp only [Act.put,List.setIfInBounds_toArray,List.set_cons_zero,List.set_cons_succ,i64_w,i32_w];rfl
      refine pure_ (i:=33) (N:=some 80) (v:=?_) (a':=?_) (bt_ 76 51539607551) rfl rfl (any_of HT_.out (by kernel_rfl)) (fun _ _ _ h=>h) (Or.inl ⟨by rfl,?_⟩) ?_ ?_
      rotate_left;·intro w';go_simp;with_reducible rfl
      rotate_left;·simp only [Act.put,List.setIfInBounds_toArray,List.set_cons_zero,List.set_cons_succ,i64_w,i32_w];rfl
      refine pure_ (i:=34) (N:=some 81) (v:=?_) (a':=?_) (bt_ 76 68719476735) rfl rfl (any_of HT_.out (by kernel_rfl)) (fun _ _ _ h=>h) (Or.inl ⟨by rfl,?_⟩) ?_ ?_
      rotate_left;·intro w';go_simp;with_reducible rfl
      rotate_left;·simp only [Act.put,List.setIfInBounds_toArray,List.set_cons_zero,List.set_cons_succ,i64_w,i32_w];rfl
      refine pure_ (i:=36) (N:=some 83) (v:=?_) (a':=?_) (bt_ 76 137438953471) rfl rfl (any_of HT_.out (by kernel_rfl)) (fun _ _ _ h=>h) (Or.inl ⟨by rfl,?_⟩) ?_ ?_
      rotate_left;·intro w';go_simp;with_reducible rfl
      rotate_left;·simp only [Act.put,List.setIfInBounds_toArray,List.set_cons_zero,List.set_cons_succ,i64_w,i32_w];rfl
      refine pure_ (i:=37) (N:=some 84) (v:=?_) (a':=?_) (bt_ 76 274877906943) rfl rfl (any_of HT_.out (by kernel_rfl)) (fun _ _ _ h=>h) (Or.inl ⟨by rfl,?_⟩) ?_ ?_
      rotate_left;·intro w';go_simp;with_reducible rfl
      rotate_left;·simp only [Act.put,List.setIfInBounds_toArray,List.set_cons_zero,List.set_cons_succ,i64_w,i32_w];rfl
      refine pure_ (i:=38) (N:=some 85) (v:=?_) (a':=?_) (bt_ 76 549755813887) rfl rfl (any_of HT_.out (by kernel_rfl)) (fun _ _ _ h=>h) (Or.inl ⟨by rfl,?_⟩) ?_ ?_
      rotate_left;·intro w';go_simp;with_reducible rfl
      rotate_left;·simp only [Act.put,List.setIfInBounds_toArray,List.set_cons_zero,List.set_cons_succ,i64_w,i32_w];rfl
      refine pure_ (i:=39) (N:=some 86) (v:=?_) (a':=?_) (bt_ 76 1099511627775) rfl rfl (any_of HT_.out (by kernel_rfl)) (fun _ _ _ h=>h) (Or.inl ⟨by rfl,?_⟩) ?_ ?_
      rotate_left;·intro w';go_simp;with_reducible rfl
      rotate_left;·simp only [Act.put,List.setIfInBounds_toArray,List.set_cons_zero,List.set_cons_succ,i64_w,i32_w];rfl
      refine pure_ (i:=40) (N:=some 87) (v:=?_) (a':=?_) (bt_ 76 2199023255551) rfl rfl (any_of HT_.out (by kernel_rfl)) (fun _ _ _ h=>h) (Or.inl ⟨by rfl,?_⟩) ?_ ?_
      rotate_left;·intro w';go_simp;with_reducible rfl
      rotate_left;·simp only [Act.put,List.setIfInBounds_toArray,List.set_cons_zero,List.set_cons_succ,i64_w,i32_w];rfl
      refine pure_ (i:=41) (N:=some 88) (v:=?_) (a':=?_) (bt_ 76 4398046511103) rfl rfl (any_of HT_.out (by kernel_rfl)) (fun _ _ _ h=>h) (Or.inl ⟨by rfl,?_⟩) ?_ ?_
      rotate_left;·intro w';go_simp;with_reducible rfl
      rotate_left;·simp only [Act.put,List.setIfInBounds_toArray,List.set_cons_zero,List.set_cons_succ,i64_w,i32_w];rfl
      refine pure_ (i:=42) (N:=some 89) (v:=?_) (a':=?_) (bt_ 76 8796093022207) rfl rfl (any_of HT_.out (by kernel_rfl)) (fun _ _ _ h=>h) (Or.inl ⟨by rfl,?_⟩) ?_ ?_
      rotate_left;·intro w';go_simp;with_reducible rfl
      rotate_left;·simp only [Act.put,List.setIfInBounds_toArray,List.set_cons_zero,List.set_cons_succ,i64_w,i32_w];rfl
      refine pure_ (i:=43) (N:=some 90) (v:=?_) (a':=?_) (bt_ 76 17592186044415) rfl rfl (any_of HT_.out (by kernel_rfl)) (fun _ _ _ h=>h) (Or.inl ⟨by rfl,?_⟩) ?_ ?_
      rotate_left;·intro w';go_simp;with_reducible rfl
      rotate_left;·simp only [Act.put,List.setIfInBounds_toArray,List.set_cons_zero,List.set_cons_succ,i64_w,i32_w];rfl
      refine take_ (i:=44) (N:=some 91) (v:=?_) (a':=?_) (bt_ 76 35184372088831) rfl rfl (take_ofW HT_.out HW_.out (by kernel_rfl)) (fun _ _ _ h=>h) (Or.inl ⟨by rfl,?_⟩) hHeld ?_ ?_
      rotate_left
      ·rintro w' ⟨s0,s1,s2⟩
       go_simp;with_reducible rfl
      rotate_left;·simp only [Act.put,List.setIfInBounds_toArray,List.set_cons_zero,List.set_cons_succ,i64_w,i32_w];rfl
      refine one_ (i:=45) (N:=some 92) (bt_ 76 70368744177663) rfl rfl (one_of HT_.out (by kernel_rfl)) (by decide) (fun K hK=>?_);refine goes_ Tryd.func21 (by kernel_rfl) rfl #[.string s,.slice bA3 (rd_T86 bs i).f3.length bc3] (by rfl) rfl rfl (by simp only [List.map_toArray,List.map_cons,List.map_nil];rfl) ?_
      with_reducible refine (IH.out (rd_T86 bs i).f3 _ bA3 bc3 HSZ.out.1 HST.out.2.2.2.2.2.2.1 (Kd.C_below bg3.out (below_step HBc.out (below_drew1 (Below.refl wc.heap.size wc)))) bl3.out).mono ?_
      rintro E wa ⟨rfl,hb_⟩
      refine ⟨_,rfl,?_⟩;have Hwa:Aside0 (Below wc.heap.size wc wa):=Aside0.mk (below_step (below_drew1 (Below.refl wc.heap.size wc)) hb_);clear hb_;refine hK.out _ _ ⟨(HF.out _ Hwa.out).1,(HF.out _ Hwa.out).2.1,(HF.out _ Hwa.out).2.2⟩ (fun hHeld=>?_);clear hK K;refine norm_ (a':=?_) ?_ ?_
      rotate_left
      ·show Act.put _ (some 92) _=_
       simp only [Act.put,List.setIfInBounds_toArray,List.set_cons_zero,List.set_cons_succ,i64_w,i32_w];rfl
      refine pure_ (i:=46) (N:=some 93) (v:=?_) (a':=?_) (bt_ 76 140737488355327) rfl rfl (any_of HT_.out (by kernel_rfl)) (fun _ _ _ h=>h) (Or.inl ⟨by rfl,?_⟩) ?_ ?_
      rotate_left;·intro w';go_simp;with_reducible rfl
      rotate_left;·simp only [Act.put,List.setIfInBounds_toArray,List.set_cons_zero,List.set_cons_succ,i64_w,i32_w];rfl
      refine pure_ (i:=47) (N:=some 94) (v:=?_) (a':=?_) (bt_ 76 281474976710655) rfl rfl (any_of HT_.out (by kernel_rfl)) (fun _ _ _ h=>h) (Or.inl ⟨by rfl,?_⟩) ?_ ?_
      rotate_left;·intro w';go_simp;with_reducible rfl
      rotate_left;·simp only [Act.put,List.setIfInBounds_toArray,List.set_cons_zero,List.set_cons_succ,i64_w,i32_w];rfl
      refine pure_ (i:=48) (N:=some 95) (v:=?_) (a':=?_) (bt_ 76 562949953421311) rfl rfl (any_of HT_.out (by kernel_rfl)) (fun _ _ _ h=>h) (Or.inl ⟨by rfl,?_⟩) ?_ ?_
      rotate_left;·intro w';go_simp;with_reducible rfl
      rotate_left;·simp only [Act.put,List.setIfInBounds_toArray,List.set_cons_zero,List.set_cons_succ,i64_w,i32_w];rfl
      refine pure_ (i:=49) (N:=some 96) (v:=?_) (a':=?_) (bt_ 76 1125899906842623) rfl rfl (any_of HT_.out (by kernel_rfl)) (fun _ _ _ h=>h) (Or.inl ⟨by rfl,?_⟩) ?_ ?_
      rotate_left;·intro w';go_simp;with_reducible rfl
      rotate_left;·simp only [Act.put,List.setIfInBounds_toArray,List.set_cons_zero,List.set_cons_succ,i64_w,i32_w];rfl
      refine pure_ (i:=50) (N:=some 97) (v:=?_) (a':=?_) (bt_ 76 2251799813685247) rfl rfl (any_of HT_.out (by kernel_rfl)) (fun _ _ _ h=>h) (Or.inl ⟨by rfl,?_⟩) ?_ ?_
      rotate_left;·intro w';go_simp;with_reducible rfl
      rotate_left;·simp only [Act.put,List.setIfInBounds_toArray,List.set_cons_zero,List.set_cons_succ,i64_w,i32_w];rfl
      refine pure_ (i:=51) (N:=some 98) (v:=?_) (a':=?_) (bt_ 76 4503599627370495) rfl rfl (any_of HT_.out (by kernel_rfl)) (fun _ _ _ h=>h) (Or.inl ⟨by rfl,?_⟩) ?_ ?_
      rotate_left;·intro w';go_simp;with_reducible rfl
      rotate_left;·simp only [Act.put,List.setIfInBounds_toArray,List.set_cons_zero,List.set_cons_succ,i64_w,i32_w];rfl
      refine pure_ (i:=52) (N:=some 99) (v:=?_) (a':=?_) (bt_ 76 9007199254740991) rfl rfl (any_of HT_.out (by kernel_rfl)) (fun _ _ _ h=>h) (Or.inl ⟨by rfl,?_⟩) ?_ ?_
      rotate_left;·intro w';go_simp;with_reducible rfl
      rotate_left;·simp only [Act.put,List.setIfInBounds_toArray,List.set_cons_zero,List.set_cons_succ,i64_w,i32_w];rfl
      refine pure_ (i:=53) (N:=some 100) (v:=?_) (a':=?_) (bt_ 76 18014398509481983) rfl rfl (any_of HT_.out (by kernel_rfl)) (fun _ _ _ h=>h) (Or.inl ⟨by rfl,?_⟩) ?_ ?_
      rotate_left;·intro w';go_simp;with_reducible rfl
      rotate_left;·simp only [Act.put,List.setIfInBounds_toArray,List.set_cons_zero,List.set_cons_succ,i64_w,i32_w];rfl
      refine take_ (i:=54) (N:=some 101) (v:=?_) (a':=?_) (bt_ 76 36028797018963967) rfl rfl (take_ofW HT_.out HW_.out (by kernel_rfl)) (fun _ _ _ h=>h) (Or.inl ⟨by rfl,?_⟩) hHeld ?_ ?_
      rotate_left
      ·rintro w' ⟨s0,s1,s2⟩
       go_simp;with_reducible rfl
      rotate_left;·simp only [Act.put,List.setIfInBounds_toArray,List.set_cons_zero,List.set_cons_succ,i64_w,i32_w];rfl
      refine one_ (i:=55) (N:=some 102) (bt_ 76 72057594037927935) rfl rfl (one_of HT_.out (by kernel_rfl)) (by decide) (fun K hK=>?_);refine goes_ Tryd.func21 (by kernel_rfl) rfl #[.string s,.slice bA4 (rd_T86 bs i).f4.length bc4] (by rfl) rfl rfl (by simp only [List.map_toArray,List.map_cons,List.map_nil];rfl) ?_
      with_reducible refine (IH.out (rd_T86 bs i).f4 _ bA4 bc4 HSZ.out.2 HST.out.2.2.2.2.2.2.2 (Kd.C_below bg4.out (below_step HBc.out Hwa.out)) bl4.out).mono ?_
      rintro E wb ⟨rfl,hb_⟩
      refine ⟨_,rfl,?_⟩;have Hwb:Aside0 (Below wc.heap.size wc wb):=Aside0.mk (below_step Hwa.out hb_);clear hb_;refine hK.out _ _ ⟨(HF.out _ Hwb.out).1,(HF.out _ Hwb.out).2.1,(HF.out _ Hwb.out).2.2⟩ (fun hHeld=>?_);clear hK K;refine norm_ (a':=?_) ?_ ?_
      rotate_left
      ·show Act.put _ (some 102) _=_
       simp only [Act.put,List.setIfInBounds_toArray,List.set_cons_zero,List.set_cons_succ,i64_w,i32_w];rfl
      refine pure_ (i:=56) (N:=some 103) (v:=?_) (a':=?_) (bt_ 76 144115188075855871) rfl rfl (any_of HT_.out (by kernel_rfl)) (fun _ _ _ h=>h) (Or.inl ⟨by rfl,?_⟩) ?_ ?_
      rotate_left;·intro w';go_simp;with_reducible rfl
      rotate_left;·simp only [Act.put,List.setIfInBounds_toArray,List.set_cons_zero,List.set_cons_succ,i64_w,i32_w];rfl
      refine pure_ (i:=57) (N:=some 104) (v:=?_) (a':=?_) (bt_ 76 288230376151711743) rfl rfl (any_of HT_.out (by kernel_rfl)) (fun _ _ _ h=>h) (Or.inl ⟨by rfl,?_⟩) ?_ ?_
      rotate_left;·intro w';go_simp;with_reducible rfl
      rotate_left;·simp only [Act.put,List.setIfInBounds_toArray,List.set_cons_zero,List.set_cons_succ,i64_w,i32_w];rfl
      refine pure_ (i:=58) (N:=some 105) (v:=?_) (a':=?_) (bt_ 76 576460752303423487) rfl rfl (any_of HT_.out (by kernel_rfl)) (fun _ _ _ h=>h) (Or.inl ⟨by rfl,?_⟩) ?_ ?_
      rotate_left;·intro w';go_simp;with_reducible rfl
      rotate_left;·simp only [Act.put,List.setIfInBounds_toArray,List.set_cons_zero,List.set_cons_succ,i64_w,i32_w];rfl
      refine pure_ (i:=59) (N:=some 106) (v:=?_) (a':=?_) (bt_ 76 1152921504606846975) rfl rfl (any_of HT_.out (by kernel_rfl)) (fun _ _ _ h=>h) (Or.inl ⟨by rfl,?_⟩) ?_ ?_
      rotate_left;·intro w';go_simp;with_reducible rfl
      rotate_left;·simp only [Act.put,List.setIfInBounds_toArray,List.set_cons_zero,List.set_cons_succ,i64_w,i32_w];rfl
      refine pure_ (i:=60) (N:=some 107) (v:=?_) (a':=?_) (bt_ 76 2305843009213693951) rfl rfl (any_of HT_.out (by kernel_rfl)) (fun _ _ _ h=>h) (Or.inl ⟨by rfl,?_⟩) ?_ ?_
      rotate_left;·intro w';go_simp;with_reducible rfl
      rotate_left;·simp only [Act.put,List.setIfInBounds_toArray,List.set_cons_zero,List.set_cons_succ,i64_w,i32_w];rfl
      refine pure_ (i:=61) (N:=some 108) (v:=?_) (a':=?_) (bt_ 76 4611686018427387903) rfl rfl (any_of HT_.out (by kernel_rfl)) (fun _ _ _ h=>h) (Or.inl ⟨by rfl,?_⟩) ?_ ?_
      rotate_left;·intro w';go_simp;with_reducible rfl
      rotate_left;·simp only [Act.put,List.setIfInBounds_toArray,List.set_cons_zero,List.set_cons_succ,i64_w,i32_w];rfl
      refine pure_ (i:=62) (N:=some 109) (v:=undef) (a':=?_) (bt_ 76 9223372036854775807) rfl rfl (any_of HT_.out (by kernel_rfl)) (fun _ _ _ h=>h) (Or.inr ⟨by rfl,rfl⟩) ?_ ?_
      rotate_left;·simp only [Act.put,List.setIfInBounds_toArray,List.set_cons_zero,List.set_cons_succ,i64_w,i32_w];rfl
      refine pure_ (i:=63) (N:=some 110) (v:=undef) (a':=?_) (bt_ 76 18446744073709551615) rfl rfl (any_of HT_.out (by kernel_rfl)) (fun _ _ _ h=>h) (Or.inr ⟨by rfl,rfl⟩) ?_ ?_
      rotate_left;·simp only [Act.put,List.setIfInBounds_toArray,List.set_cons_zero,List.set_cons_succ,i64_w,i32_w];rfl
      refine pure_ (i:=64) (N:=some 111) (v:=undef) (a':=?_) (bt_ 76 36893488147419103231) rfl rfl (any_of HT_.out (by kernel_rfl)) (fun _ _ _ h=>h) (Or.inr ⟨by rfl,rfl⟩) ?_ ?_
      rotate_left;·simp only [Act.put,List.setIfInBounds_toArray,List.set_cons_zero,List.set_cons_succ,i64_w,i32_w];rfl
      refine pure_ (i:=65) (N:=some 112) (v:=undef) (a':=?_) (bt_ 76 73786976294838206463) rfl rfl (any_of HT_.out (by kernel_rfl)) (fun _ _ _ h=>h) (Or.inr ⟨by rfl,rfl⟩) ?_ ?_
      rotate_left;·simp only [Act.put,List.setIfInBounds_toArray,List.set_cons_zero,List.set_cons_succ,i64_w,i32_w];rfl
      refine pure_ (i:=66) (N:=some 113) (v:=undef) (a':=?_) (bt_ 76 147573952589676412927) rfl rfl (any_of HT_.out (by kernel_rfl)) (fun _ _ _ h=>h) (Or.inr ⟨by rfl,rfl⟩) ?_ ?_
      rotate_left;·simp only [Act.put,List.setIfInBounds_toArray,List.set_cons_zero,List.set_cons_succ,i64_w,i32_w];rfl
      refine pure_ (i:=67) (N:=some 114) (v:=undef) (a':=?_) (bt_ 76 295147905179352825855) rfl rfl (any_of HT_.out (by kernel_rfl)) (fun _ _ _ h=>h) (Or.inr ⟨by rfl,rfl⟩) ?_ ?_
      rotate_left;·simp only [Act.put,List.setIfInBounds_toArray,List.set_cons_zero,List.set_cons_succ,i64_w,i32_w];rfl
      refine pure_ (i:=68) (N:=some 115) (v:=undef) (a':=?_) (bt_ 76 590295810358705651711) rfl rfl (any_of HT_.out (by kernel_rfl)) (fun _ _ _ h=>h) (Or.inr ⟨by rfl,rfl⟩) ?_ ?_
      rotate_left;·simp only [Act.put,List.setIfInBounds_toArray,List.set_cons_zero,List.set_cons_succ,i64_w,i32_w];rfl
      refine pure_ (i:=69) (N:=some 116) (v:=undef) (a':=?_) (bt_ 76 1180591620717411303423) rfl rfl (any_of HT_.out (by kernel_rfl)) (fun _ _ _ h=>h) (Or.inr ⟨by rfl,rfl⟩) ?_ ?_
      rotate_left;·simp only [Act.put,List.setIfInBounds_toArray,List.set_cons_zero,List.set_cons_succ,i64_w,i32_w];rfl
      refine pure_ (i:=70) (N:=some 117) (v:=undef) (a':=?_) (bt_ 76 2361183241434822606847) rfl rfl (any_of HT_.out (by kernel_rfl)) (fun _ _ _ h=>h) (Or.inr ⟨by rfl,rfl⟩) ?_ ?_
      rotate_left;·simp only [Act.put,List.setIfInBounds_toArray,List.set_cons_zero,List.set_cons_succ,i64_w,i32_w];rfl
      refine pure_ (i:=71) (N:=some 118) (v:=undef) (a':=?_) (bt_ 76 4722366482869645213695) rfl rfl (any_of HT_.out (by kernel_rfl)) (fun _ _ _ h=>h) (Or.inr ⟨by rfl,rfl⟩) ?_ ?_
      rotate_left;·simp only [Act.put,List.setIfInBounds_toArray,List.set_cons_zero,List.set_cons_succ,i64_w,i32_w];rfl
      refine pure_ (i:=72) (N:=some 119) (v:=undef) (a':=?_) (bt_ 76 9444732965739290427391) rfl rfl (any_of HT_.out (by kernel_rfl)) (fun _ _ _ h=>h) (Or.inr ⟨by rfl,rfl⟩) ?_ ?_
      rotate_left;·simp only [Act.put,List.setIfInBounds_toArray,List.set_cons_zero,List.set_cons_succ,i64_w,i32_w];rfl
      refine pure_ (i:=73) (N:=some 120) (v:=undef) (a':=?_) (bt_ 76 18889465931478580854783) rfl rfl (any_of HT_.out (by kernel_rfl)) (fun _ _ _ h=>h) (Or.inr ⟨by rfl,rfl⟩) ?_ ?_
      rotate_left;·simp only [Act.put,List.setIfInBounds_toArray,List.set_cons_zero,List.set_cons_succ,i64_w,i32_w];rfl
      refine pure_ (i:=74) (N:=some 121) (v:=?_) (a':=?_) (bt_ 76 37778931862957161709567) rfl rfl (any_of HT_.out (by kernel_rfl)) (fun _ _ _ h=>h) (Or.inl ⟨by rfl,?_⟩) ?_ ?_
      rotate_left;·intro w';go_simp;with_reducible rfl
      rotate_left;·simp only [Act.put,List.setIfInBounds_toArray,List.set_cons_zero,List.set_cons_succ,i64_w,i32_w];rfl
      refine pure_ (i:=75) (N:=some 122) (v:=?_) (a':=?_) (bt_ 76 75557863725914323419135) rfl rfl (any_of HT_.out (by kernel_rfl)) (fun _ _ _ h=>h) (Or.inl ⟨by rfl,?_⟩) ?_ ?_
      rotate_left;·intro w';go_simp;with_reducible rfl
      rotate_left;·simp only [Act.put,List.setIfInBounds_toArray,List.set_cons_zero,List.set_cons_succ,i64_w,i32_w];rfl
      refine done_ (done_of HT_.out (by kernel_rfl)) ?_
      go_wp2_with fail
      go_roundg k1
      case rel=>exact ⟨i+1,by rw [show wrap64 (i+1)=i+1 from w64 (by have:=HP.out;have:=HX.out.2.1;clear m1;omega)],⟨by have:=HP.out;clear m1;omega,by have:=HP.out;have:=HI.out;clear m1;omega,by have:=HP.out;have:=HI.out;clear m1;omega⟩,⟨below_step HBc.out Hwb.out⟩⟩
      case measure=>clear m1;omega
theorem stands_calls (s:ByteArray): ∀ (n:Nat) (bs:List St6) (w:World) (B:Option Addr) (d:Nat),szL bs<n→stL s bs→Kd.C k86 w B bs.length bs→bs.length≤d→
  Calls Tryd.prog 21 #[.string s,.slice B bs.length d] w fun e w'=>e= .returned (.bool true)∧Below w.heap.size w w'
 |0,_,_,_,_,h,_,_,_=>absurd h (by omega)
 |n+1,bs,w,B,d,h,hs,hb,hd=>stands_step s (stands_calls s n) bs w B d h hs hb hd
mutual
def stSb (s:ByteArray):St6→Bool
 |⟨k,a,n,A,B⟩=>decide ((1≤k∧k≤8)∧n.size≤1000000∧0≤a∧a≤1000000000∧a+((wordT k n).size:Int)≤(s.size:Int)∧(s.extract a.toNat (a+((wordT k n).size:Int)).toNat).toList=(wordT k n).toList) && stLb s A && stLb s B
def stLb (s:ByteArray):List St6→Bool
 |[]=>true
 |x::r=>stSb s x && (match r.head? with|some y=>decide (x.f1<y.f1)|none=>true) && stLb s r
end
mutual
theorem stSb_iff (s:ByteArray): ∀ (x:St6),stSb s x=true↔stS s x
 |⟨k,a,n,A,B⟩=>by
  simp only [stSb,stS,Bool.and_eq_true,decide_eq_true_eq,stLb_iff s A,stLb_iff s B,and_assoc]
theorem stLb_iff (s:ByteArray): ∀ (l:List St6),stLb s l=true↔stL s l
 |[]=>by simp [stLb,stL]
 |x::r=>by
  simp only [stLb,stL,Bool.and_eq_true,stSb_iff s x,stLb_iff s r,and_assoc];refine and_congr_right fun _=>and_congr_left fun _=>?_
  cases r<;>simp
end
def deadboltlaw6_stands.f (x0:ByteArray) (l1:List St6):Option Bool:=if stLb x0 l1=true then some true else none
theorem deadboltlaw6_stands.calls (x0:ByteArray) (A1:Option Addr) (c1:Nat) (l1:List St6) (r:Bool) (w:World) (hr1:Kd.C k86 w A1 l1.length l1) (hc1:l1.length≤c1) (h:deadboltlaw6_stands.f x0 l1=some r):
  Calls Tryd.prog 21 #[.string x0,.slice A1 l1.length c1] w fun e w'=>e= .returned (.bool r)∧Below w.heap.size w w':=by
 unfold deadboltlaw6_stands.f at h
 split at h
 ·rename_i hs
  obtain rfl:=Option.some.inj h;exact stands_calls x0 _ l1 w A1 c1 (Nat.lt_succ_self _) ((stLb_iff x0 l1).mp hs) hr1 hc1
 ·cases h
end Go.Proofs.YtkmafndljelopaaDoor.Q
