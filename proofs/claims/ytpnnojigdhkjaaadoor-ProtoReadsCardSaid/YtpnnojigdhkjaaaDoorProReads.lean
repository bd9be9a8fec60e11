/- ProtoReads, walked by hand: the bytes that are turned, cut, longer, summed anew; each is read by both. -/
import Derived.Test.YtpnnojigdhkjaaaDoorProSeal
import Derived.Test.YtpnnojigdhkjaaaDoorHeap
import Derived.Test.YtpnnojigdhkjaaaDoorMay15
import Derived.Test.YtpnnojigdhkjaaaDoorQ5
import Derived.Test.YtpnnojigdhkjaaaDoorQ6
import Derived.Test.YtpnnojigdhkjaaaDoorQ4
import Derived.Deep.QuietTactic
import Derived.BigQuiet
import Derived.Deep.DeepCutAuto
import Derived.Deep.LoopGhost
import Derived.Deep.CutBlock
namespace Go.Proofs.YtpnnojigdhkjaaaDoor.Q
open Go.RowKit Go.Proofs.YtpnnojigdhkjaaaDoorW.PrintWords Go.Proofs.YtpnnojigdhkjaaaDoorW.PrintLast Go.Proofs.YtpnnojigdhkjaaaDoorW.PrintMore Go.Proofs.YtpnnojigdhkjaaaDoor.Lx
set_option linter.unusedVariables false
set_option linter.unusedSimpArgs false

/-- a row of bytes that can be read -/
def Rd (w : World) (v : Value) (l : List Int) : Prop := ∃ A c, v = .slice A l.length c ∧ l.length ≤ c ∧ Kd.C (Kd.int .u8) w A l.length l
theorem Rd.below {w w' : World} {v : Value} {l : List Int} (h : Rd w v l) (hb : Below w.heap.size w w') : Rd w' v l := by
 obtain ⟨A,c,h1,h2,h3⟩:=h;exact ⟨A,c,h1,h2,Kd.C_below h3 hb⟩
theorem R_empty {e base : Nat} (w : World) (hb : base ≤ w.heap.size) : Kd.R (Kd.int .u8) e (w.alloc (.cells #[] e)) base (fun k => base ≤ k) (.slice (some ⟨w.heap.size, 0, none⟩) 0 0) [] := by
 refine ⟨fun k hk=>?_,[],World.ownsRow_lit (base:=base) (e:=e) (size:=1) w #[] 0 hb (by decide) rfl,Reps.none _ _⟩;have : w.heap.size = k:=by simpa [Value.ownBlock] using hk
 omega
theorem R_block {e base : Nat} {ok : Nat → Prop} {w : World} {v : Value} {xs : List Int} (h : Kd.R (Kd.int .u8) e w base ok v xs) (hx : xs ≠ []) : ∃ g cap, v = .slice (some ⟨g, 0, none⟩) xs.length cap := by
 obtain ⟨h0,inner,ho,hr⟩:=h;rcases ho.2 with ⟨_,h1⟩ | ⟨g,cap,cur,rfl,_⟩
 ·exact absurd (List.eq_nil_of_length_eq_zero h1) hx
 ·exact ⟨g,cap,rfl⟩
/-- the turned bytes while the first loop runs -/
def TurnRel (w5 wr : World) (n : Nat) (g : Nat) (cap : Nat) (i : Nat) : Prop :=
 ∃ cl,Aside0 (Kd.R (Kd.int .u8) 5 wr w5.heap.size (fun k=>w5.heap.size ≤ k) (.slice (some ⟨g,0,none⟩) n cap) cl) ∧ Aside0 (Below w5.heap.size w5 wr) ∧ Aside0 (Bts cl ∧ cl.length = n ∧ i ≤ 3)

set_option maxRecDepth 100000 in
set_option maxHeartbeats 3200000 in
theorem reads_row (a0 a1 : Int) (a2 : ByteArray) (A3 : Option Addr) (c3 : Nat) (l3 : List Int) (A4 : Option Addr) (c4 : Nat) (l4 : List Int) (a5 : Int) (A6 : Option Addr) (c6 : Nat) (l6 : List Int)
  (kn : Nat) (hkn : deadboltlaw15_known.f kn = some true) (km : Nat) (k:Int) (n t:ByteArray) (hmk : a2.size ≤ 300 → deadboltlaw15_Make.f km a0 a1 a2 = some (k,n,t)) (hok : a2.size ≤ 300 → ReqOk k n t)
  (w : World) (hG : GL w) (h3 : Kd.C (Kd.int .i64) w A3 l3.length l3) (hc3 : l3.length ≤ c3) (h4 : Kd.C (Kd.int .u8) w A4 l4.length l4) (hc4 : l4.length ≤ c4) (h6 : Kd.C (Kd.int .u8) w A6 l6.length l6) (hc6 : l6.length ≤ c6)
  (hb4 : Bts l4) (hb6 : Bts l6) :
  Calls Tryd.prog 4 #[.int .i64 a0,.int .i64 a1,.string a2,.slice A3 l3.length c3,.slice A4 l4.length c4,.int .i64 a5,.slice A6 l6.length c6] w fun e w'=>e = .returned (.bool true) ∧ Below w.heap.size w w':=by
 have HG:=Aside0.mk hG;have HK:=Aside0.mk hkn;have HM:=Aside0.mk hmk;have HOK:=Aside0.mk hok;have H3:=Aside0.mk h3;have H4:=Aside0.mk h4;have H6:=Aside0.mk h6;have HC3:=Aside0.mk hc3;have HC4:=Aside0.mk hc4;have HC6:=Aside0.mk hc6;have HB4:=Aside0.mk hb4;have HB6:=Aside0.mk hb6;clear hG hkn hmk hok h3 h4 h6 hc3 hc4 hc6 hb4 hb6;go_enter Tryd.func4,Tryd.ntmps4
 go_wp2_with fail
 refine (deadboltlaw15_known.calls kn true _ HK.out HG.out).mono ?_
 rintro e w1 ⟨rfl,hb1⟩
 have HB1:=Aside0.mk hb1;clear hb1;by_cases hs : 300 < a2.size
 ·have q1 : decide ((300:Int) < (a2.size:Int)) = true:=decide_eq_true (by omega);have q2 : decide (300 < a2.size) = true:=decide_eq_true hs;clear hs;go_wp2_with fail
  go_ret
  exact ⟨rfl,HB1.out⟩
 have q1 : decide ((300:Int) < (a2.size:Int)) = false:=decide_eq_false (by omega);have q2 : decide (300 < a2.size) = false:=decide_eq_false hs;by_cases hr : 300 < l6.length
 ·have q3 : decide ((300:Int) < (l6.length:Int)) = true:=decide_eq_true (by omega);have q4 : decide (300 < l6.length) = true:=decide_eq_true hr;clear hs hr;go_wp2_with fail
  go_ret
  exact ⟨rfl,HB1.out⟩
 have q3 : decide ((300:Int) < (l6.length:Int)) = false:=decide_eq_false (by omega);have q4 : decide (300 < l6.length) = false:=decide_eq_false hr;have HMK:=Aside0.mk (HM.out (by omega));have HOK':=Aside0.mk (HOK.out (by omega));have HL6 : Aside0 (l6.length ≤ 300):=Aside0.mk (by omega);clear hs hr HM HOK;go_wp2_with fail
 refine (deadboltlaw15_Make.calls km a0 a1 a2 k n t _ HMK.out).mono ?_
 rintro e w2 ⟨rfl,hb2⟩
 obtain ⟨kb,hkb⟩:=HOK'.out.ref.exists_;have HKB:=Aside0.mk hkb;have HW : Aside0 (Bts (sealI (msgI k n t)) ∧ (sealI (msgI k n t)).length ≤ 2020 ∧ 8 ≤ (sealI (msgI k n t)).length):=Aside0.mk ⟨HOK'.out.bts,HOK'.out.len,by rw [sealI_len,msgI_len]; omega⟩;have HB2:=Aside0.mk (below_step HB1.out hb2);clear hkb hb2 HMK HOK' HK;generalize sealI (msgI k n t) = W at HKB HW;go_wp2_with fail
 refine (deadboltref15_Bytes.calls kb k n t W _ HKB.out).mono ?_
 rintro e w5 ⟨v0,rfl,hv,hb5⟩
 obtain ⟨A5,c5,rfl,hc5,hC5⟩:=Kd.R_reads hv;have HB5:=Aside0.mk (below_step HB2.out hb5);have HC5:=Aside0.mk hC5;have HL5:=Aside0.mk hc5;clear hv hb5 hC5 hc5 HKB HB1 HB2;have hfr5 : ∀ k,w5.heap.size ≤ k → w5.heap.size ≤ k:=fun _ h=>h
 go_wp2_with (first
  | ((with_reducible refine gate_dst (N:=39) rfl ?_); refine Kd.R_lit (Kd.int .u8) (w0:=w5) w5.heap.size 5 ?hg (N:=39) ?hd (xs:=([] : List Int)) (inner:=[]) (ok:=fun k=>w5.heap.size ≤ k) (okp:=fun _=>True → False) ?hr ?hp (fun _ hk=>(hk trivial).elim) (Nat.le_refl _) (Below.refl _ _) (Nat.le_refl _) (by simp) ?_; (case hd=>rfl); (case hg=>rfl); (case hr=>first | (go_simp; done) | (go_simp; rfl)); (case hp=>exact Reps.none _ _); intro v39 w6 ho39 hb6 hg39 hn39; have HO39:=Aside0.mk ho39; have HB56:=Aside0.mk hb6; clear ho39 hb6 hg39 hn39)
  | ((with_reducible refine gate_builtin (b:=.append) (xs:=#[.tmp 39,.tmp 40]) rfl ?_); at_builtin; refine Kd.R_append_rows (Kd.int .u8) (w0:=w5) w5.heap.size rfl (.tmp 39) (.tmp 40) 28 5 (.int .u8 0) 1 rfl Tryd.underlying28 info5 rfl (by decide) (by omega) v39 [] W A5 W.length c5 (fun k=>w5.heap.size ≤ k) (fun _=>False) rfl rfl HO39.out (Kd.C_below HC5.out HB56.out) (fun _ _ h=>h) (fun _ h=>h.elim) (fun k hk=>Nat.le_trans HB56.out.size hk) HB56.out HB56.out.size (by have:=HW.out; simp only [List.length_nil]; omega) ?_; intro v41 w7 ho41 hb7 hg41 hn41; rw [List.nil_append] at ho41; have HO41:=Aside0.mk ho41; have HB57:=Aside0.mk hb7; clear ho41 hb7 hg41 hn41 HO39 HB56))
 obtain ⟨gC,capC,rfl⟩:=R_block HO41.out (by intro he; have:=HW.out.2.2; rw [he] at this; simp at this);have HBt:=Aside0.mk HW.out.1;have HWL : Aside0 (W.length ≤ 2020 ∧ 8 ≤ W.length):=Aside0.mk HW.out.2;go_wp2_with fail
 go_loopg [17] 4 (fun q v17 wr=>∃ i : Nat,v17 = .int .i64 (i:Int) ∧ Aside0 (q + i = 4) ∧ TurnRel w5 wr W.length gC capC i)
 case atStart=>exact ⟨0,rfl,⟨rfl⟩,W,HO41,HB57,⟨HBt.out,rfl,by omega⟩⟩
 case round =>
  obtain ⟨i,rfl,HQ,cl,HR,HBr,HI⟩:=hrel;go_upto_region 8 with fail
  go_cut [55] (fun v55 wc=>∃ b : Bool,v55 = .bool b ∧ Aside0 (b = true → i < l3.length ∧ i < l4.length ∧ i < 3) ∧ wr = wc)
  case first =>
   by_cases h3 : i < l3.length
   ·have d3 : decide ((i:Int) < (l3.length:Int)) = true:=decide_eq_true (by omega);have d3' : decide (i < l3.length) = true:=decide_eq_true h3;by_cases h4 : i < l4.length
    ·have d4 : decide ((i:Int) < (l4.length:Int)) = true:=decide_eq_true (by omega);have d4' : decide (i < l4.length) = true:=decide_eq_true h4;by_cases h5 : i < 3
     ·have d5 : decide ((i:Int) < 3) = true:=decide_eq_true (by omega);have HH:=Aside0.mk (And.intro h3 (And.intro h4 h5));clear h3 h4 h5;go_wp2_with fail
      go_meet
      case rel=>exact ⟨true,rfl,⟨fun _=>HH.out⟩,rfl⟩
     ·have d5 : decide ((i:Int) < 3) = false:=decide_eq_false (by omega);clear h3 h4 h5;go_wp2_with fail
      go_meet
      case rel=>exact ⟨false,rfl,⟨fun h=>by cases h⟩,rfl⟩
    ·have d4 : decide ((i:Int) < (l4.length:Int)) = false:=decide_eq_false (by omega);have d4' : decide (i < l4.length) = false:=decide_eq_false h4;clear h3 h4;go_wp2_with fail
     go_meet
     case rel=>exact ⟨false,rfl,⟨fun h=>by cases h⟩,rfl⟩
   ·have d3 : decide ((i:Int) < (l3.length:Int)) = false:=decide_eq_false (by omega);have d3' : decide (i < l3.length) = false:=decide_eq_false h3;clear h3;go_wp2_with fail
    go_meet
    case rel=>exact ⟨false,rfl,⟨fun h=>by cases h⟩,rfl⟩
  case rest =>
   obtain ⟨b,rfl,HC,rfl⟩:=hcut;cases b with
   | true =>
    obtain ⟨h3,h4,h5⟩:=HC.out rfl;obtain ⟨ad3,e3,g3⟩:=Kd.at_int H3.out (i:Int) (by omega) (by omega);obtain ⟨ad4,e4,g4⟩:=Kd.at_int H4.out (i:Int) (by omega) (by omega);subst e3;subst e4;have HX:=Aside0.mk (below_step HB5.out HBr.out);rw [Int.toNat_natCast] at g3 g4;have f3:=(HX.out.cell (World.block_lt_of_cell? w _ g3)).trans g3;have f4:=(HX.out.cell (World.block_lt_of_cell? w _ g4)).trans g4;generalize rd l3 (i:Int) = x3 at f3 g3;generalize rd l4 (i:Int) = x4 at f4 g4;obtain ⟨j,hj,hjl⟩ : ∃ j : Nat,x3 % (W.length:Int) = (j:Int) ∧ j < W.length:=by
     have hw:=HWL.out;obtain ⟨j,hj⟩:=Int.eq_ofNat_of_zero_le (Int.emod_nonneg x3 (show (W.length:Int) ≠ 0 by omega));have:=Int.emod_lt_of_pos x3 (show (0:Int) < (W.length:Int) by omega);exact ⟨j,hj,by omega⟩
    have HJ : Aside0 (deadboltlaw15_within.f x3 (W.length:Int) = some (j:Int)):=Aside0.mk (by
     rw [within15_f x3 (W.length:Int) (by have:=HWL.out; omega) (by have:=HWL.out; omega),hj])
    have hRl:=HR.out;rw [← HI.out.2.1] at hRl;have hcl:=Kd.R_cell (0:Int) hRl (j:Int) (by omega) (by have:=HI.out.2.1; omega);rw [Int.toNat_natCast] at hcl;obtain ⟨f1',ff⟩:=hcl;generalize hx1 : rdOf (0:Int) cl (j:Int) = x1 at f1';have f1 : wr.cell? ⟨gC,j,none⟩ = some (.int .u8 x1):=f1';have HRl:=Aside0.mk hRl;have d1 : decide ((i:Int) < (l3.length:Int)) = true:=decide_eq_true (by omega);have d2 : decide ((i:Int) < (l4.length:Int)) = true:=decide_eq_true (by omega);have d3 : decide ((j:Int) < (W.length:Int)) = true:=decide_eq_true (by omega);have d4 : decide (i < l3.length) = true:=decide_eq_true h3;have d5 : decide (i < l4.length) = true:=decide_eq_true h4;have d6 : decide (j < W.length) = true:=decide_eq_true hjl;have d7 : decide (0 ≤ (i:Int)) = true:=decide_eq_true (by omega);have d8 : decide (0 ≤ (j:Int)) = true:=decide_eq_true (by omega);have HH:=Aside0.mk (And.intro h3 (And.intro h4 h5));have HJL:=Aside0.mk hjl;clear hj g3 g4 f1' hx1 hRl HC;replace h3:=eq_true h3;replace h4:=eq_true h4;replace hjl:=eq_true hjl;go_upto_region 10 with fail
    -- REGION 10 (gen_reads10.py)
    refine start_ (n:=17) (S:=fun w'=>w'.cell? (ad3.add i) = some (.int .i64 x3) ∧ w'.cell? ⟨gC,j,none⟩ = some (.int .u8 x1) ∧ w'.cell? (ad4.add i) = some (.int .u8 x4)) (ds:=[16]) #[false,false,false,false,false,false,false,false,false,false,false,false,false,false,false,false,false] (by kernel_rfl) rfl rfl ⟨f3,f1,f4⟩ (fun hHeld=>?_);refine pure_ (i:=0) (N:=some 58) (v:=?_) (a':=?_) #[true,false,false,false,false,false,false,false,false,false,false,false,false,false,false,false,false] rfl rfl (by kernel_rfl) (fun _ _ _ h=>h) (Or.inl ⟨by rfl,?_⟩) ?_ ?_
    rotate_left;·intro w';go_simp;with_reducible rfl
    rotate_left;·simp only [Act.put,q1_,q2_,q3_,i64_w,i32_w];rfl
    refine pure_ (i:=1) (N:=some 59) (v:=?_) (a':=?_) #[true,true,false,false,false,false,false,false,false,false,false,false,false,false,false,false,false] rfl rfl (by kernel_rfl) (fun _ _ _ h=>h) (Or.inl ⟨by rfl,?_⟩) ?_ ?_
    rotate_left;·intro w';go_simp;with_reducible rfl
    rotate_left;·simp only [Act.put,q1_,q2_,q3_,i64_w,i32_w];rfl
    refine pure_ (i:=2) (N:=some 60) (v:=?_) (a':=?_) #[true,true,true,false,false,false,false,false,false,false,false,false,false,false,false,false,false] rfl rfl (by kernel_rfl) (fun _ _ _ h=>h) (Or.inl ⟨by rfl,?_⟩) ?_ ?_
    rotate_left;·intro w';go_simp;with_reducible rfl
    rotate_left;·simp only [Act.put,q1_,q2_,q3_,i64_w,i32_w];rfl
    refine pure_ (i:=3) (N:=some 61) (v:=?_) (a':=?_) #[true,true,true,true,false,false,false,false,false,false,false,false,false,false,false,false,false] rfl rfl (by kernel_rfl) (fun _ _ _ h=>h) (Or.inl ⟨by rfl,?_⟩) ?_ ?_
    rotate_left;·intro w';go_simp;with_reducible rfl
    rotate_left;·simp only [Act.put,q1_,q2_,q3_,i64_w,i32_w];rfl
    refine pure_ (i:=5) (N:=some 63) (v:=?_) (a':=?_) #[true,true,true,true,false,true,false,false,false,false,false,false,false,false,false,false,false] rfl rfl (by kernel_rfl) (fun _ _ _ h=>h) (Or.inl ⟨by rfl,?_⟩) ?_ ?_
    rotate_left;·intro w';go_simp;with_reducible rfl
    rotate_left;·simp only [Act.put,q1_,q2_,q3_,i64_w,i32_w];rfl
    refine pure_ (i:=6) (N:=some 64) (v:=?_) (a':=?_) #[true,true,true,true,false,true,true,false,false,false,false,false,false,false,false,false,false] rfl rfl (by kernel_rfl) (fun _ _ _ h=>h) (Or.inl ⟨by rfl,?_⟩) ?_ ?_
    rotate_left;·intro w';go_simp;with_reducible rfl
    rotate_left;·simp only [Act.put,q1_,q2_,q3_,i64_w,i32_w];rfl
    refine pure_ (i:=10) (N:=some 68) (v:=?_) (a':=?_) #[true,true,true,true,false,true,true,false,false,false,true,false,false,false,false,false,false] rfl rfl (by kernel_rfl) (fun _ _ _ h=>h) (Or.inl ⟨by rfl,?_⟩) ?_ ?_
    rotate_left;·intro w';go_simp;with_reducible rfl
    rotate_left;·simp only [Act.put,q1_,q2_,q3_,i64_w,i32_w];rfl
    refine pure_ (i:=11) (N:=some 69) (v:=?_) (a':=?_) #[true,true,true,true,false,true,true,false,false,false,true,true,false,false,false,false,false] rfl rfl (by kernel_rfl) (fun _ _ _ h=>h) (Or.inl ⟨by rfl,?_⟩) ?_ ?_
    rotate_left;·intro w';go_simp;with_reducible rfl
    rotate_left;·simp only [Act.put,q1_,q2_,q3_,i64_w,i32_w];rfl
    refine pure_ (i:=12) (N:=some 70) (v:=?_) (a':=?_) #[true,true,true,true,false,true,true,false,false,false,true,true,true,false,false,false,false] rfl rfl (by kernel_rfl) (fun _ _ _ h=>h) (Or.inl ⟨by rfl,?_⟩) ?_ ?_
    rotate_left;·intro w';go_simp;with_reducible rfl
    rotate_left;·simp only [Act.put,q1_,q2_,q3_,i64_w,i32_w];rfl
    refine take_ (i:=4) (N:=some 62) (v:=?_) (a':=?_) #[true,true,true,true,true,true,true,false,false,false,true,true,true,false,false,false,false] rfl rfl (by kernel_rfl) (fun _ _ _ h=>h) (Or.inl ⟨by rfl,?_⟩) hHeld ?_ ?_
    rotate_left
    ·rintro w' ⟨s0,s1,s2⟩
     go_simp;with_reducible rfl
    rotate_left;·simp only [Act.put,q1_,q2_,q3_,i64_w,i32_w];rfl
    refine take_ (i:=13) (N:=some 71) (v:=?_) (a':=?_) #[true,true,true,true,true,true,true,false,false,false,true,true,true,true,false,false,false] rfl rfl (by kernel_rfl) (fun _ _ _ h=>h) (Or.inl ⟨by rfl,?_⟩) hHeld ?_ ?_
    rotate_left
    ·rintro w' ⟨s0,s1,s2⟩
     go_simp;with_reducible rfl
    rotate_left;·simp only [Act.put,q1_,q2_,q3_,i64_w,i32_w];rfl
    refine one_ (i:=7) (N:=some 65) #[true,true,true,true,true,true,true,true,false,false,true,true,true,true,false,false,false] rfl rfl (by kernel_rfl) (by decide) (fun K hK=>?_);refine goes_ Tryd.func15 (by kernel_rfl) rfl #[.int .i64 x3,.int .i64 W.length] (by rfl) rfl rfl (by simp only [List.map_toArray,List.map_cons,List.map_nil]; rfl) ?_
    with_reducible refine (deadboltlaw15_within.calls x3 W.length (j:Int) _ HJ.out).mono ?_
    rintro e w9 ⟨rfl,hd⟩
    refine ⟨_,rfl,?_⟩;obtain ⟨nd,rfl⟩:=hd;refine hK.out _ _ ⟨f3,f1,f4⟩ (fun hHeld=>?_);clear hK K;refine norm_ (a':=?_) ?_ ?_
    rotate_left
    ·show Act.put _ (some 65) _ = _
     simp only [Act.put,q1_,q2_,q3_,i64_w,i32_w];rfl
    refine pure_ (i:=8) (N:=some 66) (v:=?_) (a':=?_) #[true,true,true,true,true,true,true,true,true,false,true,true,true,true,false,false,false] rfl rfl (by kernel_rfl) (fun _ _ _ h=>h) (Or.inl ⟨by rfl,?_⟩) ?_ ?_
    rotate_left;·intro w';go_simp;with_reducible rfl
    rotate_left;·simp only [Act.put,q1_,q2_,q3_,i64_w,i32_w];rfl
    refine take_ (i:=9) (N:=some 67) (v:=?_) (a':=?_) #[true,true,true,true,true,true,true,true,true,true,true,true,true,true,false,false,false] rfl rfl (by kernel_rfl) (fun _ _ _ h=>h) (Or.inl ⟨by rfl,?_⟩) hHeld ?_ ?_
    rotate_left
    ·rintro w' ⟨s0,s1,s2⟩
     go_simp;with_reducible rfl
    rotate_left;·simp only [Act.put,q1_,q2_,q3_,i64_w,i32_w];rfl
    refine pure_ (i:=14) (N:=some 72) (v:=?_) (a':=?_) #[true,true,true,true,true,true,true,true,true,true,true,true,true,true,true,false,false] rfl rfl (by kernel_rfl) (fun _ _ _ h=>h) (Or.inl ⟨by rfl,?_⟩) ?_ ?_
    rotate_left;·intro w';go_simp;with_reducible rfl
    rotate_left;·simp only [Act.put,q1_,q2_,q3_,i64_w,i32_w];rfl
    refine pure_ (i:=15) (N:=some 73) (v:=?_) (a':=?_) #[true,true,true,true,true,true,true,true,true,true,true,true,true,true,true,true,false] rfl rfl (by kernel_rfl) (fun _ _ _ h=>h) (Or.inl ⟨by rfl,?_⟩) ?_ ?_
    rotate_left;·intro w';go_simp;with_reducible rfl
    rotate_left;·simp only [Act.put,q1_,q2_,q3_,i64_w,i32_w];rfl
    refine last_ (i:=16) (N:=none) #[true,true,true,true,true,true,true,true,true,true,true,true,true,true,true,true,true] rfl rfl (by kernel_rfl) (by decide) (fun K hK=>?_);refine skip_ (w1:=?_) (by rfl) rfl ?_ ?_
    rotate_left;·go_simp;rfl
    refine hK.out _ _ ?_
    clear hK K;refine done_ (by kernel_rfl) ?_

    -- END REGION
    clear hHeld f3 f1 f4 ff;go_wp2
    go_roundg (gk - 1)
    case rel =>
     refine ⟨i + 1,by go_num,⟨by have:=HQ.out; have:=HH.out; omega⟩,cl.set j ((x1 + x4) % 256),⟨?_⟩,⟨?_⟩,⟨?_,by rw [List.length_set]; exact HI.out.2.1,by have:=HH.out; omega⟩⟩;·have h_:=(Kd.R_put (Kd.R_drewN HRl.out (1 + nd)) (j:Int) ((x1 + x4) % 256)).1;rw [Int.toNat_natCast,HI.out.2.1] at h_;exact h_
     ·exact Below.setCell (pw_below_drewN HBr.out (1 + nd)) (p:=⟨gC,j,none⟩) ((Kd.R_bound HO41.out).1 gC rfl).1 _
     ·intro z hz;rcases List.mem_or_eq_of_mem_set hz with h_ | h_
      ·exact HI.out.1 z h_
      ·subst h_;first | omega | (rw [IntKind.wrap_u8]; omega)
    case measure=>have:=HQ.out; have:=HH.out; omega
   | false =>
    clear HC;go_wp2_with fail
    -- the seven slices
    have HXY:=Aside0.mk (below_step HB5.out HBr.out);have HCW:=Aside0.mk (Kd.C_below HC5.out HBr.out);have HC6Y:=Aside0.mk (Kd.C_below H6.out HXY.out);have hRl:=HR.out;rw [← HI.out.2.1] at hRl;have hCc:=(Kd.R_reads' hRl).2.2;have hcapC : cl.length ≤ capC:=(Kd.R_reads' hRl).2.1;have hcll:=HI.out.2.1;have hw:=HWL.out;have HCT : Aside0 (Kd.C (Kd.int .u8) wr (some ⟨gC,0,none⟩) (cl.take (W.length - 4)).length (cl.take (W.length - 4))):=Aside0.mk (Kd.C_take hCc (by omega));have HCC : Aside0 (Kd.C (Kd.int .u8) wr (some ⟨gC,0,none⟩) cl.length cl):=Aside0.mk hCc;have hCTl : (cl.take (W.length - 4)).length = W.length - 4:=by rw [List.length_take]; omega
    have HCTL : Aside0 ((cl.take (W.length - 4)).length ≤ capC):=Aside0.mk (by omega);have HBc:=Aside0.mk HI.out.1;obtain ⟨ct,hct,hctl⟩ : ∃ j : Nat,a5 % ((W.length:Int) + 1) = (j:Int) ∧ j ≤ W.length:=by
     obtain ⟨j,hj⟩:=Int.eq_ofNat_of_zero_le (Int.emod_nonneg a5 (show (W.length:Int) + 1 ≠ 0 by omega));have:=Int.emod_lt_of_pos a5 (show (0:Int) < (W.length:Int) + 1 by omega);exact ⟨j,hj,by omega⟩
    have HJ : Aside0 (deadboltlaw15_within.f a5 ((W.length:Int) + 1) = some (ct:Int)):=Aside0.mk (by rw [within15_f a5 _ (by omega) (by omega),hct]);have HWT : Aside0 (Kd.C (Kd.int .u8) wr A5 (W.take ct).length (W.take ct)):=Aside0.mk (Kd.C_take HCW.out hctl);have hWTl : (W.take ct).length = ct:=by rw [List.length_take]; omega
    have HWTL : Aside0 ((W.take ct).length ≤ c5):=Aside0.mk (by have:=HL5.out; omega);have hbt : ∀ m,Bts (W.take m):=fun m x hx=>HBt.out x (List.mem_of_mem_take hx)
    have hbc : ∀ m,Bts (cl.take m):=fun m x hx=>HBc.out x (List.mem_of_mem_take hx)
    obtain ⟨k1,hk1⟩:=(sealed_ev (cl.take (W.length - 4)) (hbc _) (by omega)).exists_;obtain ⟨k2,hk2⟩:=(sealed_ev l6 HB6.out (by have:=HL6.out; omega)).exists_;obtain ⟨k3,hk3⟩:=(sealed_ev (W.take ct) (hbt _) (by omega)).exists_;have HK1:=Aside0.mk hk1;have HK2:=Aside0.mk hk2;have HK3:=Aside0.mk hk3;have HCTl:=Aside0.mk hCTl;have HWTl:=Aside0.mk hWTl;have HCLL:=Aside0.mk hcll;have HCAP : Aside0 (cl.length ≤ capC):=Aside0.mk hcapC;have HCTT:=Aside0.mk hctl;have s1 : IntKind.i64.wrap ((W.length:Int) + 1) = (W.length:Int) + 1:=by rw [IntKind.wrap_i64]; omega
    have s2 : wrap64 ((W.length:Int) + 1) = (W.length:Int) + 1:=w64 (by omega);have s3 : IntKind.i64.wrap ((W.length:Int) - 4) = ((W.length - 4 : Nat):Int):=by rw [IntKind.wrap_i64]; omega
    have s4 : wrap64 ((W.length:Int) - 4) = ((W.length - 4 : Nat):Int):=by rw [w64 (by omega)]; omega
    have g1 : W.length ≤ capC + 4:=by omega
    have g2 : ct ≤ c5:=by have:=HL5.out; omega
    have g3 : W.length - 4 ≤ capC:=by omega
    replace g1:=eq_true g1;replace g2:=eq_true g2;replace g3:=eq_true g3;clear hRl hCc hcapC hcll hw hct hctl hbt hbc hk1 hk2 hk3 hCTl hWTl;generalize wr = Y at *;have HS1 : Aside0 (∀ V,Below Y.heap.size Y V → Calls Tryd.prog 16 #[.slice (some ⟨gC,0,none⟩) (W.length - 4) capC] V fun e w'=>∃ v0_ : Value,e = .returned v0_ ∧ Kd.R (Kd.int .u8) 5 w' V.heap.size (fun _=>True) v0_ (sealI (cl.take (W.length - 4))) ∧ Below V.heap.size V w'):=Aside0.mk fun V hV=>by
     have h_:=deadboltlaw15_sealed.calls k1 (some ⟨gC,0,none⟩) capC (cl.take (W.length - 4)) _ V (Kd.C_below HCT.out hV) HCTL.out HK1.out;rw [HCTl.out] at h_;exact h_
    have HS3 : Aside0 (∀ V,Below Y.heap.size Y V → Calls Tryd.prog 16 #[.slice A5 ct c5] V fun e w'=>∃ v0_ : Value,e = .returned v0_ ∧ Kd.R (Kd.int .u8) 5 w' V.heap.size (fun _=>True) v0_ (sealI (W.take ct)) ∧ Below V.heap.size V w'):=Aside0.mk fun V hV=>by
     have h_:=deadboltlaw15_sealed.calls k3 A5 c5 (W.take ct) _ V (Kd.C_below HWT.out hV) HWTL.out HK3.out;rw [HWTl.out] at h_;exact h_
    -- REGION 11 (gen_reads11.py)
    refine start_ (n:=32) (S:=fun w'=>True) (ds:=[]) #[false,false,false,false,false,false,false,false,false,false,false,false,false,false,false,false,false,false,false,false,false,false,false,false,false,false,false,false,false,false,false,false] (by kernel_rfl) rfl rfl trivial (fun hHeld=>?_);refine pure_ (i:=0) (N:=some 74) (v:=?_) (a':=?_) #[true,false,false,false,false,false,false,false,false,false,false,false,false,false,false,false,false,false,false,false,false,false,false,false,false,false,false,false,false,false,false,false] rfl rfl (by kernel_rfl) (fun _ _ _ h=>h) (Or.inl ⟨by rfl,?_⟩) ?_ ?_
    rotate_left;·intro w';go_simp;with_reducible rfl
    rotate_left;·simp only [Act.put,q1_,q2_,q3_,i64_w,i32_w];rfl
    refine pure_ (i:=1) (N:=some 75) (v:=?_) (a':=?_) #[true,true,false,false,false,false,false,false,false,false,false,false,false,false,false,false,false,false,false,false,false,false,false,false,false,false,false,false,false,false,false,false] rfl rfl (by kernel_rfl) (fun _ _ _ h=>h) (Or.inl ⟨by rfl,?_⟩) ?_ ?_
    rotate_left;·intro w';go_simp;with_reducible rfl
    rotate_left;·simp only [Act.put,q1_,q2_,q3_,i64_w,i32_w];rfl
    refine pure_ (i:=2) (N:=some 76) (v:=?_) (a':=?_) #[true,true,true,false,false,false,false,false,false,false,false,false,false,false,false,false,false,false,false,false,false,false,false,false,false,false,false,false,false,false,false,false] rfl rfl (by kernel_rfl) (fun _ _ _ h=>h) (Or.inl ⟨by rfl,?_⟩) ?_ ?_
    rotate_left;·intro w';go_simp;with_reducible rfl
    rotate_left;·simp only [Act.put,q1_,q2_,q3_,i64_w,i32_w];rfl
    refine pure_ (i:=3) (N:=some 77) (v:=?_) (a':=?_) #[true,true,true,true,false,false,false,false,false,false,false,false,false,false,false,false,false,false,false,false,false,false,false,false,false,false,false,false,false,false,false,false] rfl rfl (by kernel_rfl) (fun _ _ _ h=>h) (Or.inl ⟨by rfl,?_⟩) ?_ ?_
    rotate_left;·intro w';go_simp;with_reducible rfl
    rotate_left;·simp only [Act.put,q1_,q2_,q3_,i64_w,i32_w];rfl
    refine pure_ (i:=4) (N:=some 78) (v:=?_) (a':=?_) #[true,true,true,true,true,false,false,false,false,false,false,false,false,false,false,false,false,false,false,false,false,false,false,false,false,false,false,false,false,false,false,false] rfl rfl (by kernel_rfl) (fun _ _ _ h=>h) (Or.inl ⟨by rfl,?_⟩) ?_ ?_
    rotate_left;·intro w';go_simp;with_reducible rfl
    rotate_left;·simp only [Act.put,q1_,q2_,q3_,i64_w,i32_w];rfl
    refine pure_ (i:=5) (N:=some 79) (v:=?_) (a':=?_) #[true,true,true,true,true,true,false,false,false,false,false,false,false,false,false,false,false,false,false,false,false,false,false,false,false,false,false,false,false,false,false,false] rfl rfl (by kernel_rfl) (fun _ _ _ h=>h) (Or.inl ⟨by rfl,?_⟩) ?_ ?_
    rotate_left;·intro w';go_simp;with_reducible rfl
    rotate_left;·simp only [Act.put,q1_,q2_,q3_,i64_w,i32_w];rfl
    refine pure_ (i:=9) (N:=some 83) (v:=?_) (a':=?_) #[true,true,true,true,true,true,false,false,false,true,false,false,false,false,false,false,false,false,false,false,false,false,false,false,false,false,false,false,false,false,false,false] rfl rfl (by kernel_rfl) (fun _ _ _ h=>h) (Or.inl ⟨by rfl,?_⟩) ?_ ?_
    rotate_left;·intro w';go_simp;with_reducible rfl
    rotate_left;·simp only [Act.put,q1_,q2_,q3_,i64_w,i32_w];rfl
    refine pure_ (i:=11) (N:=some 85) (v:=?_) (a':=?_) #[true,true,true,true,true,true,false,false,false,true,false,true,false,false,false,false,false,false,false,false,false,false,false,false,false,false,false,false,false,false,false,false] rfl rfl (by kernel_rfl) (fun _ _ _ h=>h) (Or.inl ⟨by rfl,?_⟩) ?_ ?_
    rotate_left;·intro w';go_simp;with_reducible rfl
    rotate_left;·simp only [Act.put,q1_,q2_,q3_,i64_w,i32_w];rfl
    refine pure_ (i:=13) (N:=some 87) (v:=?_) (a':=?_) #[true,true,true,true,true,true,false,false,false,true,false,true,false,true,false,false,false,false,false,false,false,false,false,false,false,false,false,false,false,false,false,false] rfl rfl (by kernel_rfl) (fun _ _ _ h=>h) (Or.inl ⟨by rfl,?_⟩) ?_ ?_
    rotate_left;·intro w';go_simp;with_reducible rfl
    rotate_left;·simp only [Act.put,q1_,q2_,q3_,i64_w,i32_w];rfl
    refine pure_ (i:=14) (N:=some 88) (v:=?_) (a':=?_) #[true,true,true,true,true,true,false,false,false,true,false,true,false,true,true,false,false,false,false,false,false,false,false,false,false,false,false,false,false,false,false,false] rfl rfl (by kernel_rfl) (fun _ _ _ h=>h) (Or.inl ⟨by rfl,?_⟩) ?_ ?_
    rotate_left;·intro w';go_simp;with_reducible rfl
    rotate_left;·simp only [Act.put,q1_,q2_,q3_,i64_w,i32_w];rfl
    refine pure_ (i:=15) (N:=some 89) (v:=?_) (a':=?_) #[true,true,true,true,true,true,false,false,false,true,false,true,false,true,true,true,false,false,false,false,false,false,false,false,false,false,false,false,false,false,false,false] rfl rfl (by kernel_rfl) (fun _ _ _ h=>h) (Or.inl ⟨by rfl,?_⟩) ?_ ?_
    rotate_left;·intro w';go_simp;with_reducible rfl
    rotate_left;·simp only [Act.put,q1_,q2_,q3_,i64_w,i32_w];rfl
    refine pure_ (i:=16) (N:=some 90) (v:=?_) (a':=?_) #[true,true,true,true,true,true,false,false,false,true,false,true,false,true,true,true,true,false,false,false,false,false,false,false,false,false,false,false,false,false,false,false] rfl rfl (by kernel_rfl) (fun _ _ _ h=>h) (Or.inl ⟨by rfl,?_⟩) ?_ ?_
    rotate_left;·intro w';go_simp;with_reducible rfl
    rotate_left;·simp only [Act.put,q1_,q2_,q3_,i64_w,i32_w];rfl
    refine pure_ (i:=17) (N:=some 91) (v:=?_) (a':=?_) #[true,true,true,true,true,true,false,false,false,true,false,true,false,true,true,true,true,true,false,false,false,false,false,false,false,false,false,false,false,false,false,false] rfl rfl (by kernel_rfl) (fun _ _ _ h=>h) (Or.inl ⟨by rfl,?_⟩) ?_ ?_
    rotate_left;·intro w';go_simp;with_reducible rfl
    rotate_left;·simp only [Act.put,q1_,q2_,q3_,i64_w,i32_w];rfl
    refine pure_ (i:=18) (N:=some 92) (v:=?_) (a':=?_) #[true,true,true,true,true,true,false,false,false,true,false,true,false,true,true,true,true,true,true,false,false,false,false,false,false,false,false,false,false,false,false,false] rfl rfl (by kernel_rfl) (fun _ _ _ h=>h) (Or.inl ⟨by rfl,?_⟩) ?_ ?_
    rotate_left;·intro w';go_simp;with_reducible rfl
    rotate_left;·simp only [Act.put,q1_,q2_,q3_,i64_w,i32_w];rfl
    refine pure_ (i:=20) (N:=some 94) (v:=?_) (a':=?_) #[true,true,true,true,true,true,false,false,false,true,false,true,false,true,true,true,true,true,true,false,true,false,false,false,false,false,false,false,false,false,false,false] rfl rfl (by kernel_rfl) (fun _ _ _ h=>h) (Or.inl ⟨by rfl,?_⟩) ?_ ?_
    rotate_left;·intro w';go_simp;with_reducible rfl
    rotate_left;·simp only [Act.put,q1_,q2_,q3_,i64_w,i32_w];rfl
    refine pure_ (i:=22) (N:=some 96) (v:=?_) (a':=?_) #[true,true,true,true,true,true,false,false,false,true,false,true,false,true,true,true,true,true,true,false,true,false,true,false,false,false,false,false,false,false,false,false] rfl rfl (by kernel_rfl) (fun _ _ _ h=>h) (Or.inl ⟨by rfl,?_⟩) ?_ ?_
    rotate_left;·intro w';go_simp;with_reducible rfl
    rotate_left;·simp only [Act.put,q1_,q2_,q3_,i64_w,i32_w];rfl
    refine pure_ (i:=23) (N:=some 97) (v:=?_) (a':=?_) #[true,true,true,true,true,true,false,false,false,true,false,true,false,true,true,true,true,true,true,false,true,false,true,true,false,false,false,false,false,false,false,false] rfl rfl (by kernel_rfl) (fun _ _ _ h=>h) (Or.inl ⟨by rfl,?_⟩) ?_ ?_
    rotate_left;·intro w';go_simp;with_reducible rfl
    rotate_left;·simp only [Act.put,q1_,q2_,q3_,i64_w,i32_w];rfl
    refine pure_ (i:=24) (N:=some 98) (v:=?_) (a':=?_) #[true,true,true,true,true,true,false,false,false,true,false,true,false,true,true,true,true,true,true,false,true,false,true,true,true,false,false,false,false,false,false,false] rfl rfl (by kernel_rfl) (fun _ _ _ h=>h) (Or.inl ⟨by rfl,?_⟩) ?_ ?_
    rotate_left;·intro w';go_simp;with_reducible rfl
    rotate_left;·simp only [Act.put,q1_,q2_,q3_,i64_w,i32_w];rfl
    refine pure_ (i:=25) (N:=some 99) (v:=?_) (a':=?_) #[true,true,true,true,true,true,false,false,false,true,false,true,false,true,true,true,true,true,true,false,true,false,true,true,true,true,false,false,false,false,false,false] rfl rfl (by kernel_rfl) (fun _ _ _ h=>h) (Or.inl ⟨by rfl,?_⟩) ?_ ?_
    rotate_left;·intro w';go_simp;with_reducible rfl
    rotate_left;·simp only [Act.put,q1_,q2_,q3_,i64_w,i32_w];rfl
    refine pure_ (i:=26) (N:=some 100) (v:=?_) (a':=?_) #[true,true,true,true,true,true,false,false,false,true,false,true,false,true,true,true,true,true,true,false,true,false,true,true,true,true,true,false,false,false,false,false] rfl rfl (by kernel_rfl) (fun _ _ _ h=>h) (Or.inl ⟨by rfl,?_⟩) ?_ ?_
    rotate_left;·intro w';go_simp;with_reducible rfl
    rotate_left;·simp only [Act.put,q1_,q2_,q3_,i64_w,i32_w];rfl
    refine join_ (σ:=Nat) 9 #[true,true,true,true,true,true,true,true,true,true,false,true,false,true,true,true,true,true,true,false,true,false,true,true,true,true,true,false,false,false,false,false] (fun s=>[(80,.int .i64 (ct:Int)),(81,.slice A5 ct c5),(82,.slice (some ⟨s,0,none⟩) 0 0)]) (fun s w'=>Below Y.heap.size Y w' ∧ Kd.R (Kd.int .u8) 5 w' Y.heap.size (fun k_=>Y.heap.size ≤ k_) (.slice (some ⟨s,0,none⟩) 0 0) []) ?_ ?_
    rotate_left
    ·intro hCont;refine two_ (i:=6) (j:=8) (Ni:=some 80) (Nj:=some 82) #[true,true,true,true,true,true,true,false,false,true,false,true,false,true,true,true,true,true,true,false,true,false,true,true,true,true,true,false,false,false,false,false] #[true,true,true,true,true,true,false,false,true,true,false,true,false,true,true,true,true,true,true,false,true,false,true,true,true,true,true,false,false,false,false,false] rfl rfl rfl rfl (by kernel_rfl) (by decide) (by decide) (fun K hK=>?_) (fun K hK=>?_)
     ·skip
      refine goes_ Tryd.func15 (by kernel_rfl) rfl #[.int .i64 a5,.int .i64 (W.length + 1)] (by rfl) rfl rfl (by simp only [List.map_toArray,List.map_cons,List.map_nil]; rfl) ?_
      with_reducible refine (deadboltlaw15_within.calls a5 (W.length + 1) (ct:Int) _ HJ.out).mono ?_
      rintro e w9_ ⟨rfl,⟨nd_,rfl⟩⟩
      refine ⟨_,rfl,?_⟩;refine hK.out _ _ trivial (fun hHeld=>?_);clear hK K;refine norm_ (a':=?_) ?_ ?_
      rotate_left
      ·show Act.put _ (some 80) _ = _
       simp only [Act.put,q1_,q2_,q3_,i64_w,i32_w];rfl
      refine pure_ (i:=7) (N:=some 81) (v:=?_) (a':=?_) #[true,true,true,true,true,true,true,true,false,true,false,true,false,true,true,true,true,true,true,false,true,false,true,true,true,true,true,false,false,false,false,false] rfl rfl (by kernel_rfl) (fun _ _ _ h=>h) (Or.inl ⟨by rfl,?_⟩) ?_ ?_
      rotate_left;·intro w';go_simp;with_reducible rfl
      rotate_left;·simp only [Act.put,q1_,q2_,q3_,i64_w,i32_w];rfl
      refine one_ (i:=8) (N:=some 82) #[true,true,true,true,true,true,true,true,true,true,false,true,false,true,true,true,true,true,true,false,true,false,true,true,true,true,true,false,false,false,false,false] rfl rfl (by kernel_rfl) (by decide) (fun K hK=>?_);refine value_ (w1:=?_) (v:=?_) (by rfl) rfl ?_ ?_
      rotate_left 2
      ·go_simp;constructor
       ·rfl
       ·rfl
      refine hK.out _ _ trivial (fun hHeld=>?_);clear hK K;refine norm_ (a':=?_) ?_ ?_
      rotate_left
      ·show Act.put _ (some 82) _ = _
       simp only [Act.put,q1_,q2_,q3_,i64_w,i32_w];rfl
      exact norm_ (by simp only [putAll,Act.put,q1_,q2_,q3_]) (hCont Y.heap.size _ ⟨below_alloc (pw_below_drewN (Below.refl _ Y) (1 + nd_)) _,R_empty (Y.drewN (1 + nd_)) (Nat.le_refl _)⟩)
     ·skip
      refine value_ (w1:=?_) (v:=?_) (by rfl) rfl ?_ ?_
      rotate_left 2
      ·go_simp;constructor
       ·rfl
       ·rfl
      refine hK.out _ _ trivial (fun hHeld=>?_);clear hK K;refine norm_ (a':=?_) ?_ ?_
      rotate_left
      ·show Act.put _ (some 82) _ = _
       simp only [Act.put,q1_,q2_,q3_,i64_w,i32_w];rfl
      refine one_ (i:=6) (N:=some 80) #[true,true,true,true,true,true,true,false,true,true,false,true,false,true,true,true,true,true,true,false,true,false,true,true,true,true,true,false,false,false,false,false] rfl rfl (by kernel_rfl) (by decide) (fun K hK=>?_);refine goes_ Tryd.func15 (by kernel_rfl) rfl #[.int .i64 a5,.int .i64 (W.length + 1)] (by rfl) rfl rfl (by simp only [List.map_toArray,List.map_cons,List.map_nil]; rfl) ?_
      with_reducible refine (deadboltlaw15_within.calls a5 (W.length + 1) (ct:Int) _ HJ.out).mono ?_
      rintro e w9_ ⟨rfl,⟨nd_,rfl⟩⟩
      refine ⟨_,rfl,?_⟩;refine hK.out _ _ trivial (fun hHeld=>?_);clear hK K;refine norm_ (a':=?_) ?_ ?_
      rotate_left
      ·show Act.put _ (some 80) _ = _
       simp only [Act.put,q1_,q2_,q3_,i64_w,i32_w];rfl
      refine pure_ (i:=7) (N:=some 81) (v:=?_) (a':=?_) #[true,true,true,true,true,true,true,true,true,true,false,true,false,true,true,true,true,true,true,false,true,false,true,true,true,true,true,false,false,false,false,false] rfl rfl (by kernel_rfl) (fun _ _ _ h=>h) (Or.inl ⟨by rfl,?_⟩) ?_ ?_
      rotate_left;·intro w';go_simp;with_reducible rfl
      rotate_left;·simp only [Act.put,q1_,q2_,q3_,i64_w,i32_w];rfl
      exact norm_ (by simp only [putAll,Act.put,q1_,q2_,q3_]) (hCont Y.heap.size _ ⟨pw_below_drewN (below_drew1 (below_alloc (Below.refl _ Y) _)) nd_,Kd.R_drewN (Kd.R_drew (R_empty Y (Nat.le_refl _))) nd_⟩)
    rintro b82 w10 ⟨hb10_,ho10_⟩
    have hHeld : True:=trivial;have HB10:=Aside0.mk hb10_;have HO10:=Aside0.mk ho10_;clear hb10_ ho10_;refine norm_ (a':=?_) ?_ ?_
    rotate_left;·simp only [putAll,Act.put,q1_,q2_,q3_];rfl
    refine one_ (i:=10) (N:=some 84) #[true,true,true,true,true,true,true,true,true,true,true,true,false,true,true,true,true,true,true,false,true,false,true,true,true,true,true,false,false,false,false,false] rfl rfl (by kernel_rfl) (by decide) (fun K hK=>?_);refine Kd.R_append_rows_step (Kd.int .u8) (w0:=Y) Y.heap.size (by rfl) (.tmp 82) (.tmp 83) 28 5 (.int .u8 0) 1 rfl Tryd.underlying28 info5 rfl (by decide) (by omega) (.slice (some ⟨b82,0,none⟩) 0 0) [] W A5 W.length c5 (fun k_=>Y.heap.size ≤ k_) (fun _=>False) rfl rfl HO10.out (Kd.C_below HCW.out HB10.out) (fun _ _ h=>h) (fun _ h=>h.elim) (fun k_ hk=>Nat.le_trans HB10.out.size hk) HB10.out HB10.out.size (by have:=HWL.out; simp only [List.length_nil]; omega) ?_
    intro v84 w11 ho_ hb_ hg_ hat_;have HO11:=Aside0.mk ho_;have HB11:=Aside0.mk hb_;clear ho_ hb_ hg_ hat_;have ho11_:=HO11.out;rw [List.nil_append] at ho11_;clear HO11;have HO11:=Aside0.mk ho11_;clear ho11_;obtain ⟨A84,c84,rfl⟩:=Kd.R_slice HO11.out;refine hK.out _ _ trivial (fun hHeld=>?_);clear hK K;refine norm_ (a':=?_) ?_ ?_
    rotate_left
    ·show Act.put _ (some 84) _ = _
     simp only [Act.put,q1_,q2_,q3_,i64_w,i32_w];rfl
    refine one_ (i:=12) (N:=some 86) #[true,true,true,true,true,true,true,true,true,true,true,true,true,true,true,true,true,true,true,false,true,false,true,true,true,true,true,false,false,false,false,false] rfl rfl (by kernel_rfl) (by decide) (fun K hK=>?_);refine Kd.R_append_rows_step (Kd.int .u8) (w0:=Y) Y.heap.size (by rfl) (.tmp 84) (.tmp 85) 28 5 (.int .u8 0) 1 rfl Tryd.underlying28 info5 rfl (by decide) (by omega) (.slice A84 W.length c84) W l6 A6 l6.length c6 (fun k_=>Y.heap.size ≤ k_) (fun _=>False) rfl rfl HO11.out (Kd.C_below HC6Y.out HB11.out) (fun _ _ h=>h) (fun _ h=>h.elim) (fun k_ hk=>Nat.le_trans HB11.out.size hk) HB11.out HB11.out.size (by have:=HWL.out; have:=HL6.out; omega) ?_
    intro v86 w12 ho_ hb_ hg_ hat_;have HO12:=Aside0.mk ho_;have HB12:=Aside0.mk hb_;clear ho_ hb_ hg_ hat_;obtain ⟨A86,c86,rfl,h86a,h86b⟩:=Kd.R_reads HO12.out;obtain ⟨n86,hn86⟩ : ∃ n_,n_ = (W ++ l6).length:=⟨_,rfl⟩;rw [← hn86];have HN86:=Aside0.mk hn86;clear hn86;have H86a:=Aside0.mk h86a;have H86b:=Aside0.mk h86b;clear h86a h86b;refine hK.out _ _ trivial (fun hHeld=>?_);clear hK K;refine norm_ (a':=?_) ?_ ?_
    rotate_left
    ·show Act.put _ (some 86) _ = _
     simp only [Act.put,q1_,q2_,q3_,i64_w,i32_w];rfl
    refine one_ (i:=19) (N:=some 93) #[true,true,true,true,true,true,true,true,true,true,true,true,true,true,true,true,true,true,true,true,true,false,true,true,true,true,true,false,false,false,false,false] rfl rfl (by kernel_rfl) (by decide) (fun K hK=>?_);refine goes_ Tryd.func16 (by kernel_rfl) rfl #[.slice (some ⟨gC,0,none⟩) (W.length - 4) capC] (by rfl) rfl rfl (by simp only [List.map_toArray,List.map_cons,List.map_nil]; rfl) ?_
    with_reducible refine (HS1.out _ HB12.out).mono ?_
    rintro e w13 ⟨v_,rfl,hv,hb_⟩
    refine ⟨_,rfl,?_⟩;obtain ⟨A93,c93,rfl,H93a_,H93b_⟩:=Kd.R_reads hv;have H93a:=Aside0.mk H93a_;have H93b:=Aside0.mk H93b_;have HB13:=Aside0.mk (below_step HB12.out hb_);have H93S:=Aside0.mk hb_;clear hv hb_ H93a_ H93b_;refine hK.out _ _ trivial (fun hHeld=>?_);clear hK K;refine norm_ (a':=?_) ?_ ?_
    rotate_left
    ·show Act.put _ (some 93) _ = _
     simp only [Act.put,q1_,q2_,q3_,i64_w,i32_w];rfl
    refine one_ (i:=21) (N:=some 95) #[true,true,true,true,true,true,true,true,true,true,true,true,true,true,true,true,true,true,true,true,true,true,true,true,true,true,true,false,false,false,false,false] rfl rfl (by kernel_rfl) (by decide) (fun K hK=>?_);refine goes_ Tryd.func16 (by kernel_rfl) rfl #[.slice (A6) l6.length c6] (by rfl) rfl rfl (by simp only [List.map_toArray,List.map_cons,List.map_nil]; rfl) ?_
    with_reducible refine (deadboltlaw15_sealed.calls k2 A6 c6 l6 _ _ (Kd.C_below HC6Y.out HB13.out) HC6.out HK2.out).mono ?_
    rintro e w14 ⟨v_,rfl,hv,hb_⟩
    refine ⟨_,rfl,?_⟩;obtain ⟨A95,c95,rfl,H95a_,H95b_⟩:=Kd.R_reads hv;have H95a:=Aside0.mk H95a_;have H95b:=Aside0.mk H95b_;have HB14:=Aside0.mk (below_step HB13.out hb_);have H95S:=Aside0.mk hb_;clear hv hb_ H95a_ H95b_;refine hK.out _ _ trivial (fun hHeld=>?_);clear hK K;refine norm_ (a':=?_) ?_ ?_
    rotate_left
    ·show Act.put _ (some 95) _ = _
     simp only [Act.put,q1_,q2_,q3_,i64_w,i32_w];rfl
    refine one_ (i:=27) (N:=some 101) #[true,true,true,true,true,true,true,true,true,true,true,true,true,true,true,true,true,true,true,true,true,true,true,true,true,true,true,true,false,false,false,false] rfl rfl (by kernel_rfl) (by decide) (fun K hK=>?_);refine goes_ Tryd.func15 (by kernel_rfl) rfl #[.int .i64 a5,.int .i64 (W.length + 1)] (by rfl) rfl rfl (by simp only [List.map_toArray,List.map_cons,List.map_nil]; rfl) ?_
    with_reducible refine (deadboltlaw15_within.calls a5 (W.length + 1) (ct:Int) _ HJ.out).mono ?_
    rintro e w15_ ⟨rfl,⟨nd2_,rfl⟩⟩
    refine ⟨_,rfl,?_⟩;have HB15:=Aside0.mk (pw_below_drewN HB14.out nd2_);refine hK.out _ _ trivial (fun hHeld=>?_);clear hK K;refine norm_ (a':=?_) ?_ ?_
    rotate_left
    ·show Act.put _ (some 101) _ = _
     simp only [Act.put,q1_,q2_,q3_,i64_w,i32_w];rfl
    refine pure_ (i:=28) (N:=some 102) (v:=?_) (a':=?_) #[true,true,true,true,true,true,true,true,true,true,true,true,true,true,true,true,true,true,true,true,true,true,true,true,true,true,true,true,true,false,false,false] rfl rfl (by kernel_rfl) (fun _ _ _ h=>h) (Or.inl ⟨by rfl,?_⟩) ?_ ?_
    rotate_left;·intro w';go_simp;with_reducible rfl
    rotate_left;·simp only [Act.put,q1_,q2_,q3_,i64_w,i32_w];rfl
    refine one_ (i:=29) (N:=some 103) #[true,true,true,true,true,true,true,true,true,true,true,true,true,true,true,true,true,true,true,true,true,true,true,true,true,true,true,true,true,true,false,false] rfl rfl (by kernel_rfl) (by decide) (fun K hK=>?_);refine goes_ Tryd.func16 (by kernel_rfl) rfl #[.slice (A5) ct c5] (by rfl) rfl rfl (by simp only [List.map_toArray,List.map_cons,List.map_nil]; rfl) ?_
    with_reducible refine (HS3.out _ HB15.out).mono ?_
    rintro e w16 ⟨v_,rfl,hv,hb_⟩
    refine ⟨_,rfl,?_⟩;obtain ⟨A103,c103,rfl,H103a_,H103b_⟩:=Kd.R_reads hv;have H103a:=Aside0.mk H103a_;have H103b:=Aside0.mk H103b_;have HB16:=Aside0.mk (below_step HB15.out hb_);have H103S:=Aside0.mk hb_;clear hv hb_ H103a_ H103b_;refine hK.out _ _ trivial (fun hHeld=>?_);clear hK K;refine norm_ (a':=?_) ?_ ?_
    rotate_left
    ·show Act.put _ (some 103) _ = _
     simp only [Act.put,q1_,q2_,q3_,i64_w,i32_w];rfl
    refine one_ (i:=30) (N:=some 104) #[true,true,true,true,true,true,true,true,true,true,true,true,true,true,true,true,true,true,true,true,true,true,true,true,true,true,true,true,true,true,true,false] rfl rfl (by kernel_rfl) (by decide) (fun K hK=>?_);refine value_ (w1:=?_) (v:=?_) (by rfl) rfl ?_ ?_
    rotate_left 2
    ·go_simp;constructor
     ·rfl
     ·rfl
    refine hK.out _ _ trivial (fun hHeld=>?_);clear hK K;refine norm_ (a':=?_) ?_ ?_
    rotate_left
    ·show Act.put _ (some 104) _ = _
     simp only [Act.put,q1_,q2_,q3_,i64_w,i32_w];rfl
    refine pure_ (i:=31) (N:=some 18) (v:=?_) (a':=?_) #[true,true,true,true,true,true,true,true,true,true,true,true,true,true,true,true,true,true,true,true,true,true,true,true,true,true,true,true,true,true,true,true] rfl rfl (by kernel_rfl) (fun _ _ _ h=>h) (Or.inl ⟨by rfl,?_⟩) ?_ ?_
    rotate_left;·intro w';go_simp;with_reducible rfl
    rotate_left;·simp only [Act.put,q1_,q2_,q3_,i64_w,i32_w];rfl
    refine done_ (by kernel_rfl) ?_

    -- END REGION
    have hB16:=HB16.out;have hcz : ∀ i,(w16.alloc (.cells #[.slice (some ⟨gC,0,none⟩) W.length capC,.slice A5 ct c5,.slice A86 n86 c86,.slice A6 l6.length c6,.slice A93 (sealI (cl.take (W.length - 4))).length c93,.slice A95 (sealI l6).length c95,.slice A103 (sealI (W.take ct)).length c103] 28)).cell? ⟨w16.heap.size,i,none⟩ = (#[.slice (some ⟨gC,0,none⟩) W.length capC,.slice A5 ct c5,.slice A86 n86 c86,.slice A6 l6.length c6,.slice A93 (sealI (cl.take (W.length - 4))).length c93,.slice A95 (sealI l6).length c95,.slice A103 (sealI (W.take ct)).length c103] : Array Value)[i]?:=fun i=>blk_cell (blk_new w16 (.cells #[.slice (some ⟨gC,0,none⟩) W.length capC,.slice A5 ct c5,.slice A86 n86 c86,.slice A6 l6.length c6,.slice A93 (sealI (cl.take (W.length - 4))).length c93,.slice A95 (sealI l6).length c95,.slice A103 (sealI (W.take ct)).length c103] 28)) i
    have HBZ:=Aside0.mk (below_alloc (Below.refl w16.heap.size w16) (.cells #[.slice (some ⟨gC,0,none⟩) W.length capC,.slice A5 ct c5,.slice A86 n86 c86,.slice A6 l6.length c6,.slice A93 (sealI (cl.take (W.length - 4))).length c93,.slice A95 (sealI l6).length c95,.slice A103 (sealI (W.take ct)).length c103] 28));have HCZ:=Aside0.mk hcz;clear hcz hB16 hHeld;go_wp2_with fail
    generalize w16.alloc (.cells #[.slice (some ⟨gC,0,none⟩) W.length capC,.slice A5 ct c5,.slice A86 n86 c86,.slice A6 l6.length c6,.slice A93 (sealI (cl.take (W.length - 4))).length c93,.slice A95 (sealI l6).length c95,.slice A103 (sealI (W.take ct)).length c103] 28) = Z at HBZ HCZ ⊢;have up : ∀ {V : World} {A : Option Addr} {E : List Int},Kd.C (Kd.int .u8) V A E.length E → Below V.heap.size V w16 → Kd.C (Kd.int .u8) Z A E.length E:=fun hC hV=>Kd.C_below (Kd.C_below hC hV) HBZ.out
    have HE : Aside0 (∀ i,i < 7 → ∃ A c E,Z.cell? ⟨w16.heap.size,i,none⟩ = some (.slice A E.length c) ∧ E.length ≤ c ∧ Kd.C (Kd.int .u8) Z A E.length E ∧ Bts E ∧ E.length ≤ 3000):=Aside0.mk fun i hi=>by
     have hL6:=HL6.out;have hWL:=HWL.out;have hCL:=HCLL.out;have hbt : ∀ m,Bts (W.take m):=fun m x hx=>HBt.out x (List.mem_of_mem_take hx)
     have hbc : ∀ m,Bts (cl.take m):=fun m x hx=>HBc.out x (List.mem_of_mem_take hx)
     obtain h | h | h | h | h | h | h : i = 0 ∨ i = 1 ∨ i = 2 ∨ i = 3 ∨ i = 4 ∨ i = 5 ∨ i = 6:=by omega
     all_goals subst h
     ·exact ⟨some ⟨gC,0,none⟩,capC,cl,(HCZ.out 0).trans (by rw [hCL]; rfl),HCAP.out,up HCC.out HB16.out,HBc.out,by omega⟩
     ·exact ⟨A5,c5,W.take ct,(HCZ.out 1).trans (by rw [HWTl.out]; rfl),HWTL.out,up HWT.out HB16.out,hbt _,by rw [HWTl.out]; have:=HCTT.out; omega⟩
     ·exact ⟨A86,c86,W ++ l6,(HCZ.out 2).trans (by rw [← HN86.out]; rfl),H86a.out,up H86b.out (below_step (below_step H93S.out H95S.out) (below_step (pw_below_drewN (Below.refl _ _) nd2_) H103S.out)),HBt.out.app HB6.out,by rw [List.length_append]; omega⟩
     ·exact ⟨A6,c6,l6,HCZ.out 3,HC6.out,up HC6Y.out HB16.out,HB6.out,by omega⟩
     ·exact ⟨A93,c93,_,HCZ.out 4,H93a.out,up H93b.out (below_step H95S.out (below_step (pw_below_drewN (Below.refl _ _) nd2_) H103S.out)),sealI_Bts (hbc _),by rw [sealI_len,HCTl.out]; omega⟩
     ·exact ⟨A95,c95,_,HCZ.out 5,H95a.out,up H95b.out (below_step (pw_below_drewN (Below.refl _ _) nd2_) H103S.out),sealI_Bts HB6.out,by rw [sealI_len]; omega⟩
     ·exact ⟨A103,c103,_,HCZ.out 6,H103a.out,up H103b.out (Below.refl _ _),sealI_Bts (hbt _),by rw [sealI_len,HWTl.out]; have:=HCTT.out; omega⟩
    have HWZ:=Aside0.mk (below_step (below_step HXY.out HB16.out) HBZ.out);clear HCZ up;generalize w16.heap.size = bz at HE ⊢;go_loopg [19] 8 (fun q v19 wr=>∃ i : Nat,v19 = .int .i64 (i:Int) ∧ Aside0 (q + i = 8 ∧ i ≤ 7) ∧ Aside0 (Below Z.heap.size Z wr))
    case atStart=>exact ⟨0,rfl,⟨by omega,by omega⟩,⟨Below.refl _ _⟩⟩
    case round =>
     obtain ⟨i,rfl,HQ,HBv⟩:=hrel;by_cases hi : i < 7
     ·obtain ⟨Ae,ce,E,hE1,hE2,hE3,hE4,hE5⟩:=HE.out i hi;have HE1:=Aside0.mk hE1;have HE2:=Aside0.mk hE2;have HE3:=Aside0.mk hE3;have HE5:=Aside0.mk hE5;obtain ⟨kp,hkp⟩:=(Parse_ev E hE4 (by omega)).exists_;obtain ⟨kr,hkr⟩:=(ref_Parse_ev E hE4 (by omega)).exists_;generalize parseR E = pr at hkp hkr;obtain ⟨pk,pn,pt,pe⟩:=pr;have HKP:=Aside0.mk hkp;have HKR:=Aside0.mk hkr;have HGZ:=Aside0.mk (HG.out.of_below (below_step HWZ.out HBv.out));have d1 : decide ((i:Int) < 7) = true:=decide_eq_true (by omega);have d2 : decide (0 ≤ (i:Int)) = true:=decide_eq_true (by omega);have d3 : (i:Int) < 7:=by omega
      have d4 : 0 ≤ (i:Int):=by omega
      have HI7:=Aside0.mk hi;have g0:=(HBv.out.cell (World.block_lt_of_cell? Z _ hE1)).trans hE1;have G0:=Aside0.mk g0;clear hE1 hE2 hE3 hE4 hE5 hkp hkr hi g0;go_wp2_with (first
       | ((with_reducible refine gate_dst (N:=112) rfl ?_); refine Kd.R_lit (Kd.int .u8) (w0:=wr) wr.heap.size 5 ?hg (N:=112) ?hd (xs:=([] : List Int)) (inner:=[]) (ok:=fun k=>wr.heap.size ≤ k) (okp:=fun _=>True → False) ?hr ?hp (fun _ hk=>(hk trivial).elim) (Nat.le_refl _) (Below.refl _ _) (Nat.le_refl _) (by simp) ?_; (case hd=>rfl); (case hg=>rfl); (case hr=>first | (go_simp; done) | (go_simp; rfl)); (case hp=>exact Reps.none _ _); intro v112 wa ho_ hb_ hg_ hn_; have HOa:=Aside0.mk ho_; have HBa:=Aside0.mk hb_; have ga:=(hb_.cell (World.block_lt_of_cell? wr _ G0.out)).trans G0.out; clear ho_ hb_ hg_ hn_)
       | ((with_reducible refine gate_builtin (b:=.append) (xs:=#[.tmp 112,.tmp 116]) rfl ?_); at_builtin; refine Kd.R_append_rows (Kd.int .u8) (w0:=wr) wr.heap.size rfl (.tmp 112) (.tmp 116) 28 5 (.int .u8 0) 1 rfl Tryd.underlying28 info5 rfl (by decide) (by omega) v112 [] E Ae E.length ce (fun k=>wr.heap.size ≤ k) (fun _=>False) rfl rfl HOa.out (Kd.C_below HE3.out (below_step HBv.out HBa.out)) (fun _ _ h=>h) (fun _ h=>h.elim) (fun k hk=>Nat.le_trans HBa.out.size hk) HBa.out HBa.out.size (by have:=HE5.out; simp only [List.length_nil]; omega) ?_; intro v117 wb ho_ hb_ hg_ hn_; rw [List.nil_append] at ho_; have HOb:=Aside0.mk ho_; have HBb:=Aside0.mk hb_; clear ho_ hb_ hg_ hn_ HOa HBa ga))
      obtain ⟨Ab,cb,rfl,hcb,hCb⟩:=Kd.R_reads HOb.out;refine (proto_Parse.calls kp Ab cb E pk pn pt pe _ hCb hcb HKP.out (HGZ.out.of_below HBb.out)).mono ?_
      rintro e wp ⟨rfl,hbp⟩
      have HBP:=Aside0.mk (below_step HBb.out hbp);have HBX:=Aside0.mk (below_alloc HBP.out (.cells #[.int .i64 pk,.string pn,.string pt] 30));have hx:=blk_new wp (.cells #[.int .i64 pk,.string pn,.string pt] 30);have HX:=Aside0.mk hx;have gx : (wp.alloc (.cells #[.int .i64 pk,.string pn,.string pt] 30)).cell? ⟨bz,i,none⟩ = some (.slice Ae E.length ce):=(HBX.out.cell (World.block_lt_of_cell? wr _ G0.out)).trans G0.out;clear hcb hCb hbp hx HOb;go_wp2_with fail
      refine (deadboltref15_Parse.calls kr Ae ce E pk pn pt pe _ (Kd.C_below HE3.out (below_step HBv.out HBX.out)) HE2.out HKR.out).mono ?_
      rintro e wq ⟨rfl,hbq⟩
      have hxq:=blk_alloc (blk_below HX.out hbq) (.cells #[.int .i64 pk,.string pn,.string pt] 25);have hyq:=blk_new wq (.cells #[.int .i64 pk,.string pn,.string pt] 25);have HBQ:=Aside0.mk (below_alloc (below_step HBX.out hbq) (.cells #[.int .i64 pk,.string pn,.string pt] 25));have x0:=blk_cell hxq 0;have x1:=blk_cell hxq 1;have x2:=blk_cell hxq 2;have y0:=blk_cell hyq 0;have y1:=blk_cell hyq 1;have y2:=blk_cell hyq 2;have hu25:=Tryd.underlying25;have hu30:=Tryd.underlying30;clear hxq hyq hbq gx HX;go_wp2_with fail
      go_roundg (gk - 1)
      case rel=>exact ⟨i + 1,by go_num,⟨by have:=HQ.out; have:=HI7.out; omega,by have:=HI7.out; omega⟩,⟨below_step HBv.out HBQ.out⟩⟩
      case measure=>have:=HQ.out; have:=HI7.out; omega
     ·have d1 : decide ((i:Int) < 7) = false:=decide_eq_false (by omega);clear hi;go_wp2_with fail
      go_ret
      exact ⟨rfl,below_step HWZ.out HBv.out⟩
end Go.Proofs.YtpnnojigdhkjaaaDoor.Q
