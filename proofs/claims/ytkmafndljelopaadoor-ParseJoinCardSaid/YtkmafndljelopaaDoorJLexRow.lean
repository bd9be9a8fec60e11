/- lex.row: how many signs stand at a text's beginning: its contract, by hand (it ranges over a string). -/
import Derived.Test.YtkmafndljelopaaDoorJQ1
import Derived.Test.YtkmafndljelopaaDoorJLexSpec
import Derived.Test.YtkmafndljelopaaDoorJGL
import Derived.Lib.OthersKept
namespace Go.Proofs.YtkmafndljelopaaDoor.Q
open Go.RowKit Go.Proofs.YtkmafndljelopaaDoorW.PrintWords Go.Proofs.YtkmafndljelopaaDoorW.PrintLast Go.Proofs.YtkmafndljelopaaDoorW.PrintMore Go.Proofs.YtkmafndljelopaaDoor.Lx
set_option linter.unusedVariables false
set_option linter.unusedSimpArgs false
theorem EE (c:Int):lY.f c=some (decide (97≤c) && decide (c≤122)):=by
 unfold lY.f
 by_cases h:97≤c<;>simp [h]
theorem TS (c:Int):zQ.f c=some ((decide (97≤c) && decide (c≤122))||(decide (48≤c) && decide (c≤57))):=by
 unfold zQ.f
 rw [EE];by_cases h:97≤c<;>by_cases h':c≤122<;>by_cases g:48≤c<;>simp [h,h',g]
def xM.f (a0:ByteArray):Option Int:=some (sgnRow a0.data.toList:Int)
theorem drop_cons (s:ByteArray) (p:Nat) (h:p<s.size):s.data.toList.drop p=s[p]::s.data.toList.drop (p+1):=by
 rw [List.drop_eq_getElem_cons (by simpa using h)];rfl
theorem ZW (s:ByteArray) (p:Nat) (h:p<s.size):((s[p].toNat<128∧Utf8.decode s p=(s[p].toNat,1))∨(128≤s[p].toNat∧128≤(Utf8.decode s p).1)):=by
 by_cases ha:s[p].toNat<128
 ·exact .inl ⟨ha,decode_ascii s p h ha⟩
 ·exact .inr ⟨by omega,(decode_high s p h (by omega)).1⟩
theorem aeN (c:UInt8) (h:signB c=true):c.toNat<128:=by
 simp only [signB,letterB,Bool.or_eq_true,Bool.and_eq_true,decide_eq_true_eq,UInt8.le_iff_toNat_le] at h;simp at h
 omega
theorem Z1 (c:UInt8):((decide (97≤(c.toNat:Int)) && decide ((c.toNat:Int)≤122))||(decide (48≤(c.toNat:Int)) && decide ((c.toNat:Int)≤57)))=signB c:=by
 rw [Bool.eq_iff_iff];simp only [signB,letterB,Bool.or_eq_true,Bool.and_eq_true,decide_eq_true_eq,UInt8.le_iff_toNat_le];simp
 omega
set_option maxHeartbeats 400000 in
theorem xM.calls (a0:ByteArray) (r:Int) (w:World) (h:xM.f a0=some r):
  Calls Tryd.prog 60 #[.string a0] w fun e w'=>e= .returned (.int .i64 r)∧Below w.heap.size w w':=by
 obtain rfl:r=(sgnRow a0.data.toList:Int):=by simpa [xM.f] using h.symm
 clear h;have wO:=aC.mk (Below.refl w.heap.size w);go_enter Tryd.func60,Tryd.ntmps60
 go_wp2
 go_loopw [] (fun wr=>∃ (pos:Nat),aC (wr.heap[w.heap.size]? =some (.stringIter a0 pos))∧aC (Below w.heap.size w wr)∧aC (sgnRow a0.data.toList=pos+sgnRow (a0.data.toList.drop pos)∧pos≤a0.size)) (fun wr=>a0.size - wr.iterPos w.heap.size)
 case atStart=>
  refine ⟨0,⟨?_⟩,⟨?_⟩,⟨by simp,by omega⟩⟩;·have:=World.iter_heap w a0 0;simpa using this
  ·exact (Below.refl _ w).alloc (Nat.le_refl _) _
 case round=>
  obtain ⟨pos,JY,hbw,hr⟩:=hrel;have hit:=JY.out;have hsz:w.heap.size<wr.heap.size:=(Array.getElem?_eq_some_iff.1 hit).1;have hle:pos≤a0.size:=hr.out.2;by_cases hp:pos<a0.size
  ·have aiL:=decode_le a0 pos;have hdc:=aC.mk (ZW a0 pos hp);have hrc:aC (sgnRow (a0.data.toList.drop pos)=if signB a0[pos] then sgnRow (a0.data.toList.drop (pos+1))+1 else 0):=⟨by rw [drop_cons a0 pos hp];rfl⟩;have hm:aC (wr.iterPos w.heap.size=pos):=⟨by simp [World.iterPos,hit]⟩;by_cases hsg:signB a0[pos]=true
   ·have ha:a0[pos].toNat<128:=by
     have:=aeN _ hsg;omega
    have hnx: ∀ ty,(Instr.next (.pointer (some ⟨w.heap.size,0,none⟩)) true ty).run Tryd.prog wr=_:=fun ty=>Lib.run_next_ascii_at wr w.heap.size a0 pos ty hit hp ha
    have tX:=aC.mk (Lib.iterAt_heap wr w.heap.size a0 pos (pos+1) hit);have rK:=aC.mk (Lib.below_iterAt hbw.out (k:=w.heap.size) (Nat.le_refl _) a0 (pos+1));have hs:aC (zQ.f (a0[pos].toNat:Int)=some true):=⟨by rw [TS,Z1,hsg]⟩;have hrr:aC (sgnRow a0.data.toList=(pos+1)+sgnRow (a0.data.toList.drop (pos+1))∧pos+1≤a0.size):=⟨by
     have h1:=hr.out.1;rw [hrc.out,hsg,if_pos rfl] at h1;omega,by omega⟩
    clear hit;go_wp2_with (go_at_call 80;refine (zQ.calls (a0[pos].toNat:Int) true _ hs.out).mono ?_;rintro e w' ⟨rfl,⟨nd,rfl⟩⟩)
    go_roundw
    case rel=>exact ⟨pos+1,⟨tX.out⟩,⟨aN rK.out _⟩,hrr⟩
    case measure=>
     have h2:((wr.iterAt w.heap.size a0 (pos+1)).drewN nd).iterPos w.heap.size=pos+1:=by
      have:=tX.out;simp [World.iterPos,World.drewN,this]
     rw [hm.out,h2];omega
   ·have hnx: ∀ ty,(Instr.next (.pointer (some ⟨w.heap.size,0,none⟩)) true ty).run Tryd.prog wr=_:=fun ty=>Lib.run_next_any_at wr w.heap.size a0 pos ty hit hp
    have rK:=aC.mk (Lib.below_iterAt hbw.out (k:=w.heap.size) (Nat.le_refl _) a0 (pos+(Utf8.decode a0 pos).2));have hs:aC (zQ.f ((Utf8.decode a0 pos).1:Int)=some false):=⟨by
     have hf:signB a0[pos]=false:=by simpa using hsg
     rcases hdc.out with ⟨ha,hd⟩|⟨_,hd⟩
     ·rw [hd,TS,Z1,hf]
     ·rw [TS];have h1: ¬ ((Utf8.decode a0 pos).1:Int)≤122:=by omega
      have h2: ¬ ((Utf8.decode a0 pos).1:Int)≤57:=by omega
      simp [h1,h2]⟩
    have hrr:aC (sgnRow a0.data.toList=pos):=⟨by
     have h1:=hr.out.1;have hf:signB a0[pos]=false:=by simpa using hsg
     rw [hrc.out,hf] at h1;simpa using h1⟩
    clear hit hsg;go_wp2_with (go_at_call 80;refine (zQ.calls ((Utf8.decode a0 pos).1:Int) false _ hs.out).mono ?_;rintro e w' ⟨rfl,⟨nd,rfl⟩⟩)
    go_ret
    exact ⟨by rw [hrr.out];rfl,aN rK.out _⟩
  ·have hnx: ∀ ty,(Instr.next (.pointer (some ⟨w.heap.size,0,none⟩)) true ty).run Tryd.prog wr=_:=fun ty=>Lib.run_next_end_at wr w.heap.size a0 pos ty hit hp
   have hrr:aC (sgnRow a0.data.toList=a0.size):=⟨by
    have h1:=hr.out.1;rw [List.drop_of_length_le (by simp;omega)] at h1;simp only [sgnRow] at h1;omega⟩
   go_wp2
   go_ret
   exact ⟨by rw [hrr.out];rfl,hbw.out⟩
end Go.Proofs.YtkmafndljelopaaDoor.Q
