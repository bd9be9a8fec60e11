/- parse.word and strings.Join, by hand. -/
import Derived.Test.YtkmafndljelopaaDoorJPar1
import Derived.Test.YtkmafndljelopaaDoorJShelf2
namespace Go.Proofs.YtkmafndljelopaaDoor.Q
open Go.RowKit Go.Proofs.YtkmafndljelopaaDoorW.PrintWords Go.Proofs.YtkmafndljelopaaDoorW.PrintLast Go.Proofs.YtkmafndljelopaaDoorW.PrintMore Go.Proofs.YtkmafndljelopaaDoor.Lx
set_option linter.unusedVariables false
set_option linter.unusedSimpArgs false
def verbC (k:Int):ByteArray:=⟨(verbsC.getD (k.toNat - 1) []).toArray⟩
def xO.f (a0:Int):Option ByteArray:=if 1≤a0∧a0≤8 then some (verbC a0) else none
set_option maxRecDepth 20000 in
set_option maxHeartbeats 800000 in
theorem xO.calls (a0:Int) (r:ByteArray) (w:World) (h:xO.f a0=some r) (hG:GL w):Calls Tryd.prog 77 #[.int .i64 a0] w fun e w'=>e= .returned (.string r)∧Below w.heap.size w w':=by
  unfold xO.f at h
  split at h
  · rename_i hk
    obtain rfl:=Option.some.inj h
    clear h
    have HG:=aC.mk hG
    clear hG
    have hc:a0=((1:Nat):Int)∨a0=((2:Nat):Int)∨a0=((3:Nat):Int)∨a0=((4:Nat):Int)∨a0=((5:Nat):Int)∨a0=((6:Nat):Int)∨a0=((7:Nat):Int)∨a0=((8:Nat):Int):=by omega
    clear hk
    rcases hc with rfl|rfl|rfl|rfl|rfl|rfl|rfl|rfl
    all_goals
      (have HS:=aC.mk (fun (k:Nat) (hk:k≤8)=>af4 k hk w)
       go_enter Tryd.func77,Tryd.ntmps77
       go_wp2_with fail
       refine (HS.out _ (by decide)).mono ?_
       rintro E w1 ⟨rfl,hb⟩
       have HB:=aC.mk hb
       have HF:=aC.mk (afZ w1 (HG.out.fS hb))
       clear hb HS
       simp only [shapeN,List.getD_cons_succ,List.getD_cons_zero]
       go_wp2_with fail
       refine HF.out.mono ?_
       rintro E w2 ⟨rfl,rfl⟩
       have hv:=gC w1 (.cells verbVals 9)
       have cR:=aC.mk (aI HB.out (.cells verbVals 9))
       clear HF HB HG)
    all_goals
      (have k0:(w1.alloc (.cells verbVals 9)).cell? ⟨w1.heap.size,0,none⟩=some (.string (verbC 1)):=aD hv 0
       have k1:(w1.alloc (.cells verbVals 9)).cell? ⟨w1.heap.size,1,none⟩=some (.string (verbC 2)):=aD hv 1
       have k2:(w1.alloc (.cells verbVals 9)).cell? ⟨w1.heap.size,2,none⟩=some (.string (verbC 3)):=aD hv 2
       have k3:(w1.alloc (.cells verbVals 9)).cell? ⟨w1.heap.size,3,none⟩=some (.string (verbC 4)):=aD hv 3
       have k4:(w1.alloc (.cells verbVals 9)).cell? ⟨w1.heap.size,4,none⟩=some (.string (verbC 5)):=aD hv 4
       have k5:(w1.alloc (.cells verbVals 9)).cell? ⟨w1.heap.size,5,none⟩=some (.string (verbC 6)):=aD hv 5
       have k6:(w1.alloc (.cells verbVals 9)).cell? ⟨w1.heap.size,6,none⟩=some (.string (verbC 7)):=aD hv 6
       have k7:(w1.alloc (.cells verbVals 9)).cell? ⟨w1.heap.size,7,none⟩=some (.string (verbC 8)):=aD hv 7
       clear hv
       go_wp2_with fail
       go_ret
       exact ⟨rfl,cR.out⟩)
  · cases h
def strings_Join.f (l0:List ByteArray) (a1:ByteArray):Option ByteArray:=
  if l0.length≤140737488355328∧(Lib.join (l0.map (·.data.toList)) a1.data.toList).length≤140737488355328 then some ⟨(Lib.join (l0.map (·.data.toList)) a1.data.toList).toArray⟩ else none
theorem strings_Join.calls (A0:Option Addr) (c0:Nat) (l0:List ByteArray) (a1:ByteArray) (r:ByteArray) (w:World) (eX:Kd.C Kd.string w A0 l0.length l0) (fC:l0.length≤c0) (h:strings_Join.f l0 a1=some r):
    Calls Tryd.prog 47 #[.slice A0 l0.length c0,.string a1] w fun e w'=>e= .returned (.string r)∧Below w.heap.size w w':=by
  unfold strings_Join.f at h
  split at h
  · rename_i hk
    obtain rfl:=Option.some.inj h
    cases l0 with
    |nil=>
      refine (Tryd.strings_Join_none A0 c0 a1 w).mono ?_
      rintro e w' ⟨rfl,rfl⟩
      exact ⟨rfl,Below.refl _ _⟩
    |cons x l=>
      obtain ⟨ad,rfl,hc⟩:=eX.2.2 (by simp)
      have cell: ∀ (j:Nat) y,(x::l)[j]? =some y→w.cell? (ad.add j)=some (.string y):=fun j y hj=>by
        obtain ⟨c,_,hK,h2⟩:=hc j y hj
        have:=h2 0 (.string y) (by rw [show c= [.string y] from hK];rfl)
        rwa [show j * Kd.string.sz+0=j from by show j * 1+0=j;omega] at this
      have h0:=cell 0 x rfl
      rw [show ad.add 0=ad from by unfold Addr.add;simp] at h0
      have hsp:ad.spot=none:=by
        cases hs:ad.spot with
        |none=>rfl
        |some s=>unfold World.cell? at h0;simp [hs] at h0;split at h0 <;> simp at h0
      obtain ⟨bk,o,sp⟩:=ad
      obtain rfl:sp=none:=hsp
      refine Tryd.strings_Join bk o c0 (x::l) a1 w (fun j y hj=> ?_) (World.block_lt_of_cell? w _ h0) hk.1 fC hk.2
      have:=cell j y hj
      unfold Addr.add at this
      split at this
      · rename_i hz
        subst hz
        simpa using this
      · exact this
  · cases h
end Go.Proofs.YtkmafndljelopaaDoor.Q
