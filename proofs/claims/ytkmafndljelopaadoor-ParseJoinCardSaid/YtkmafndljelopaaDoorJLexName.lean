/- lex.Name: whether a text is a name: its contract, by hand (it calls strings.Fields on a constant text). -/
import Derived.Test.YtkmafndljelopaaDoorJLexRow
import Derived.Test.YtkmafndljelopaaDoorJShelf
namespace Go.Proofs.YtkmafndljelopaaDoor.Q
open Go.RowKit Go.Proofs.YtkmafndljelopaaDoorW.PrintWords Go.Proofs.YtkmafndljelopaaDoorW.PrintLast Go.Proofs.YtkmafndljelopaaDoorW.PrintMore Go.Proofs.YtkmafndljelopaaDoor.Lx
set_option linter.unusedVariables false
set_option linter.unusedSimpArgs false
def xH.f (a0:ByteArray):Option Bool:=some (nameB a0.data.toList)
def wordsT:ByteArray:=⟨#[118,97,114,32,108,111,99,107,32,102,117,110,99,32,117,115,101,32,115,101,116,32,117,110,108,111,99,107,32,99,97,108,108,32,115,112,97,119,110,32,105,102,32,101,108,115,101,32,108,111,111,112]⟩
theorem atT:Lib.fields wordsT.data.toList=wordsC:=by decide+kernel
def wordVals:Array Value:=(wordsC.map fun l=>Value.string ⟨l.toArray⟩).toArray
theorem aiS (c:UInt8):(decide (97≤(c.toNat:Int)) && decide ((c.toNat:Int)≤122))=letterB c:=by
 rw [Bool.eq_iff_iff];simp only [letterB,Bool.and_eq_true,decide_eq_true_eq,UInt8.le_iff_toNat_le];simp
 omega
theorem aoN: ∀ b∈wordsT.data.toList,b.toNat<128:=by decide
theorem axG (w:World) (hG:GL w):Calls Tryd.prog 89 #[.string wordsT] w fun e w'=>e= .returned (.slice (some ⟨w.heap.size,0,none⟩) 11 11)∧w'=w.alloc (.cells wordVals 9):=by
 refine (Tryd.strings_Fields_laid wordsT w (by decide) (fun j b hb=>aoN b (List.mem_of_getElem? hb)) hG.ascii).mono ?_
 rintro e w' ⟨rfl,rfl⟩
 rw [atT];exact ⟨rfl,rfl⟩
def wordBA (k:Nat):ByteArray:=⟨(wordsC.getD k []).toArray⟩
theorem ai9 (k:Nat):(wordBA k).toList=wordsC.getD k []:=by rw [ByteArray.toList_eq];simp [wordBA]
theorem auA: ∀ k,k<11→wordsC.contains (wordsC.getD k [])=true:=by decide
theorem ayZ (l:List UInt8) (h: ∀ j,j<11→wordsC.getD j []≠l):wordsC.contains l=false:=by
 have hs: ∀ x∈wordsC,∃ j,j<11∧wordsC.getD j []=x:=by decide
 rw [Bool.eq_false_iff];intro hc;obtain ⟨j,hj,hx⟩:=hs l (by simpa using hc);exact h j hj hx
theorem auU (w:World): ∀ k,k<11→(w.alloc (.cells wordVals 9)).cell? ⟨w.heap.size,k,none⟩=some (.string (wordBA k)):=by
 intro k hk;have h1:wordVals[k]? =some (.string (wordBA k)):=by
  have hl:wordsC.length=11:=rfl;simp [wordVals,wordBA,List.getElem?_eq_getElem (show k<wordsC.length by omega)]
 exact (aD (heap_alloc_new w _) k).trans h1
set_option maxHeartbeats 800000 in
theorem xH.calls (a0:ByteArray) (r:Bool) (w:World) (h:xH.f a0=some r) (hG:GL w):
  Calls Tryd.prog 81 #[.string a0] w fun e w'=>e= .returned (.bool r)∧Below w.heap.size w w':=by
 obtain rfl:r=nameB a0.data.toList:=by simpa [xH.f] using h.symm
 clear h;have HG:=aC.mk hG;clear hG;by_cases h0:a0.size=0
 ·have e0:a0.data.toList= []:=List.eq_nil_of_length_eq_zero (by simpa using h0);have e1:a0.toList= []:=by rw [ByteArray.toList_eq,e0]
  have e2:a0.toList.isEmpty=true:=by rw [e1];rfl
  go_enter Tryd.func81,Tryd.ntmps81
  go_wp2_with fail
  go_ret
  exact ⟨by rw [e0];rfl,Below.refl _ _⟩
 have e1: ¬ a0.toList= []:=by
  rw [ByteArray.toList_eq];intro e;exact h0 (by simpa using congrArg List.length e)
 have e2:a0.toList.isEmpty=false:=by simpa using e1
 have hpos:0<a0.size:=by omega
 have hcons:a0.data.toList=a0[0]'hpos::a0.data.toList.drop 1:=by simpa using drop_cons a0 0 (by omega)
 by_cases atH:12<a0.size
 ·have d1:decide (12<(a0.size:Int))=true:=by simp;omega
  have d2:decide (12<a0.size)=true:=by simp;omega
  have HR:aC (nameB a0.data.toList=false):=⟨by
   rw [hcons];have: ¬ (a0.data.toList.drop 1).length<12:=by simp;omega
   simp only [nameB];rw [decide_eq_false this];rfl⟩
  clear hcons;go_enter Tryd.func81,Tryd.ntmps81
  go_wp2_with fail
  go_ret
  exact ⟨by rw [HR.out];rfl,Below.refl _ _⟩
 have d1:decide (12<(a0.size:Int))=false:=by simp;omega
 have d2:decide (12<a0.size)=false:=by simp;omega
 have hw:wrap32 ((a0[0]'hpos).toNat:Int)=((a0[0]'hpos).toNat:Int):=IntWalk.wrap32_in _ (by have:=(a0[0]'hpos).toNat_lt;omega);have hsz:a0.size≤12:=by omega
 have HC:=aC.mk hcons;have HE:aC (nameB a0.data.toList=(letterB (a0[0]'hpos) && decide (sgnRow a0.data.toList=a0.size) && !(wordsC.contains a0.data.toList))):=⟨by
  have hl:(a0.data.toList.drop 1).length+1=a0.size:=by simp;omega
  rw [HC.out];simp only [nameB];rw [decide_eq_true (by omega:(a0.data.toList.drop 1).length<12),hl];simp⟩
 clear hcons h0 atH;by_cases hlet:letterB (a0[0]'hpos)=true
 ·have hlt:aC (lY.f ((a0[0]'hpos).toNat:Int)=some true):=⟨by rw [EE,aiS,hlet]⟩;have hrow:aC (xM.f a0=some (sgnRow a0.data.toList:Int)):=⟨rfl⟩;by_cases hr:sgnRow a0.data.toList<a0.size
  ·have d3:decide ((sgnRow a0.data.toList:Int)<(a0.size:Int))=true:=by simp;omega
   have d4:decide (sgnRow a0.data.toList<a0.size)=true:=by simp;omega
   have HR:aC (nameB a0.data.toList=false):=⟨by rw [HE.out,decide_eq_false (by omega)];simp⟩;clear hr;go_enter Tryd.func81,Tryd.ntmps81
   go_wp2_with (first|(go_at_call 59;rw [hw];refine (lY.calls ((a0[0]'hpos).toNat:Int) true _ hlt.out).mono ?_;rintro e w' ⟨rfl,⟨nd,rfl⟩⟩)|(go_at_call 60;refine (xM.calls a0 _ _ hrow.out).mono ?_;rintro e AQ ⟨rfl,hbr⟩;have HB:=aC.mk hbr;clear hbr))
   go_ret
   exact ⟨by rw [HR.out];rfl,LK (aN (Below.refl _ _) _) (Nat.le_refl _) HB.out⟩
  ·have heq:sgnRow a0.data.toList=a0.size:=by
    have:=PZ a0.data.toList;simp at this
    omega
   have d3:decide ((sgnRow a0.data.toList:Int)<(a0.size:Int))=false:=by simp;omega
   have d4:decide (sgnRow a0.data.toList<a0.size)=false:=by simp;omega
   have HR:aC (nameB a0.data.toList= !(wordsC.contains a0.data.toList)):=⟨by rw [HE.out,decide_eq_true heq,hlet];simp⟩;clear hr heq;go_enter Tryd.func81,Tryd.ntmps81
   go_wp2_with (first|(go_at_call 59;rw [hw];refine (lY.calls ((a0[0]'hpos).toNat:Int) true _ hlt.out).mono ?_;rintro e w' ⟨rfl,⟨nd,rfl⟩⟩)|(go_at_call 60;refine (xM.calls a0 _ _ hrow.out).mono ?_;rintro e AQ ⟨rfl,hbr⟩;have HB:=aC.mk hbr;clear hbr)|(go_at_call 89;refine (axG _ (GL.fS (GL.drewN HG.out _) HB.out)).mono ?_;rintro e ai7 ⟨rfl,aaL⟩;have TE:=aC.mk aaL;clear aaL))
   have p8:aC (Below w.heap.size w ai7):=⟨by
    rw [TE.out];exact (LK (aN (Below.refl _ _) _) (Nat.le_refl _) HB.out).alloc HB.out.size _⟩
   have hcells:aC (∀ k,k<11→ai7.cell? ⟨AQ.heap.size,k,none⟩=some (.string (wordBA k))):=⟨by
    rw [TE.out];exact auU AQ⟩
   clear TE;go_loop [28] (fun i=>∃ k:Nat,k≤11∧i= .int .i64 k∧aC (∀ j,j<k→wordsC.getD j []≠a0.data.toList)) (fun i=>11 - (intOf i).toNat)
   case atStart=>exact ⟨0,by omega,rfl,⟨fun j hj=>by omega⟩⟩
   case round=>
    obtain ⟨k,hk,rfl,hno⟩:=hrel;by_cases adB:k<11
    ·have hcell:=hcells.out k adB;have k1:decide ((k:Int)<11)=true:=by simp;omega
     by_cases heq:wordsC.getD k []=a0.data.toList
     ·have q:((wordBA k).toList==a0.toList)=true:=by rw [ai9,ByteArray.toList_eq,heq];exact beq_self_eq_true _
      have nF:aC (nameB a0.data.toList=false):=⟨by
       rw [HR.out,← heq,auA k adB];rfl⟩
      clear heq;go_wp2
      go_ret
      exact ⟨by rw [nF.out];rfl,p8.out⟩
     ·have q:((wordBA k).toList==a0.toList)=false:=by rw [ai9,ByteArray.toList_eq];exact beq_eq_false_iff_ne.mpr heq
      have am4:aC (∀ j,j<k+1→wordsC.getD j []≠a0.data.toList):=⟨fun j hj=>by
       rcases Nat.lt_succ_iff_lt_or_eq.1 hj with h|h
       ·exact hno.out j h
       ·subst h;exact heq⟩
      clear heq;go_wp2
      go_round
      case rel=>exact ⟨k+1,by omega,by go_num,am4⟩
      case measure=>simp [intOf];omega
    ·have k1:decide ((k:Int)<11)=false:=by simp;omega
     have nF:aC (nameB a0.data.toList=true):=⟨by
      rw [HR.out,ayZ _ (fun j hj=>hno.out j (by omega))];rfl⟩
     go_wp2
     go_ret
     exact ⟨by rw [nF.out];rfl,p8.out⟩
 ·have hlt:aC (lY.f ((a0[0]'hpos).toNat:Int)=some false):=⟨by rw [EE,aiS];simpa using hlet⟩;have HR:aC (nameB a0.data.toList=false):=⟨by rw [HE.out];simp [hlet]⟩;clear hlet;go_enter Tryd.func81,Tryd.ntmps81
  go_wp2_with (first|(go_at_call 59;rw [hw];refine (lY.calls ((a0[0]'hpos).toNat:Int) false _ hlt.out).mono ?_;rintro e w' ⟨rfl,⟨nd,rfl⟩⟩))
  go_ret
  exact ⟨by rw [HR.out];rfl,aN (Below.refl _ _) _⟩
end Go.Proofs.YtkmafndljelopaaDoor.Q
