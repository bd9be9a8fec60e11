/- lex.Tokens: a text's tokens, or the place of the first byte that is none: its contract, by hand (it ranges over a string). -/
import Derived.Test.YtkmafndljelopaaDoorJLexRow
import Derived.Test.YtkmafndljelopaaDoorJQ1
import Derived.Lib.Strings
import Derived.WalkSpells
namespace Go.Proofs.YtkmafndljelopaaDoor.Q
open Go.RowKit Go.Proofs.YtkmafndljelopaaDoorW.PrintWords Go.Proofs.YtkmafndljelopaaDoorW.PrintLast Go.Proofs.YtkmafndljelopaaDoorW.PrintMore Go.Proofs.YtkmafndljelopaaDoor.Lx
set_option linter.unusedVariables false
set_option linter.unusedSimpArgs false
theorem UR (c:Int):rO.f c=some (c==32||(c==9||c==10)):=by
 unfold rO.f
 by_cases h:c=32
 ·simp [h]
 ·have h1:(c==32)=false:=by simp [h]
  by_cases h':c=9
  ·simp [h']
  ·have h2:(c==9)=false:=by simp [h']
   rw [if_neg h,if_neg h',h1,h2];rfl
theorem adA (c:UInt8):((c.toNat:Int)==32||((c.toNat:Int)==9||(c.toNat:Int)==10))=blankB c:=by
 rw [Bool.eq_iff_iff];simp only [blankB,Bool.or_eq_true,beq_iff_eq,← UInt8.toNat_inj];simp
 omega
theorem RD (c:UInt8):(decide (97≤(c.toNat:Int)) && decide ((c.toNat:Int)≤122))=letterB c:=by
 rw [Bool.eq_iff_iff];simp only [letterB,Bool.and_eq_true,decide_eq_true_eq,UInt8.le_iff_toNat_le];simp
 omega
theorem av0 (c:UInt8) (h:letterB c=true):signB c=true:=by simp [signB,h]
theorem au0 (c:UInt8) (h:blankB c=true):c.toNat<128:=by
 simp only [blankB,Bool.or_eq_true,beq_iff_eq,← UInt8.toNat_inj] at h;simp at h
 omega
theorem acD (c:UInt8) (n:Nat) (hn:n<256):((c.toNat:Int)==(n:Int))=(c==UInt8.ofNat n):=by
 rw [Bool.eq_iff_iff];simp only [beq_iff_eq,← UInt8.toNat_inj];rw [UInt8.toNat_ofNat_of_lt' (by simpa using hn)];omega
abbrev Tok:=S108
def tokScan (s:ByteArray):List UInt8→Nat→Nat→List Tok→List Tok×Int×Int
 |[],_,_,acc=>(acc,0,0)
 |c::r,i,e,acc=>
  if i<e∨blankB c=true then tokScan s r (i+1) e acc
  else if c=123 then tokScan s r (i+1) e (acc++ [⟨2,i,⟨#[]⟩⟩])
  else if c=125 then tokScan s r (i+1) e (acc++ [⟨3,i,⟨#[]⟩⟩])
  else if letterB c=true then tokScan s r (i+1) (i+sgnRow (c::r)) (acc++ [⟨1,i,s.extract i (i+sgnRow (c::r))⟩])
  else ([],(i:Int),6)
def r9.f (a0:ByteArray):Option (List Tok×Int×Int):=
 if a0.size>2000 then some ([],0,2) else some (tokScan a0 a0.data.toList 0 0 [])
theorem XF {W w1:World} {g pos:Nat} {s:ByteArray} {row:Option Nat} (h:W.heap[g]? =some (.stringIter s pos)) (hg:W.grownBy w1 row) (hne:some g≠row):w1.heap[g]? =some (.stringIter s pos):=
 (hg.block g (Array.getElem?_eq_some_iff.1 h).1 hne).trans h
theorem axP {α:Type} {d:Kd α} {e:Nat} {w:World} {base:Nat} {ok:Nat→Prop} {v:Value} {xs:List α} (h:Kd.R d e w base ok v xs) (g:Nat) (s:ByteArray) (p:Nat) (hok: ∀ k,ok k→k≠g):Kd.R d e (w.iterAt g s p) base ok v xs:=
 Kd.AD h (fun k ho _=>Lib.iterAt_other w g k s p (hok k ho))
theorem aa6 (c:UInt8) (n:UInt8) (hn:n.toNat<128) (h:128≤c.toNat): ¬ c=n:=by
 rintro rfl
 omega
theorem aw3 (c:UInt8) (h:128≤c.toNat):letterB c=false:=by
 rw [← RD];have: ¬ (c.toNat:Int)≤122:=by omega
 simp [this]
theorem UM {α:Type} {d:Kd α} {e:Nat} {w:World} {base g:Nat} {v:Value} {xs:List α} (h:Kd.R d e w base (fun k=>k≠g) v xs):some g≠v.ownBlock:=
 fun he=>h.1 g he.symm rfl
set_option maxRecDepth 20000 in
set_option maxHeartbeats 800000 in
theorem r9.calls (a0:ByteArray) (r1:List Tok) (r2:Int) (r3:Int) (w:World) (h:r9.f a0=some (r1,r2,r3)):
  Calls Tryd.prog 31 #[.string a0] w fun e w'=>∃ mO:Value,e= .returned (.tuple #[mO,.int .i64 r2,.int .i64 r3])∧Kd.R k108 108 w' w.heap.size (fun _=>True) mO r1∧Below w.heap.size w w':=by
 by_cases hl:a0.size>2000
 ·rw [r9.f,if_pos hl] at h;simp only [Option.some.injEq,Prod.mk.injEq] at h;obtain ⟨rfl,rfl,rfl⟩:=h;have c1:decide (2000<(a0.size:Int))=true:=by simp;omega
  have c2:decide (2000<a0.size)=true:=by simp;omega
  go_enter Tryd.func31,Tryd.ntmps31
  go_wp2
  go_ret3
  exact ⟨_,rfl,Kd.jZ _ _ _ _ _,Below.refl _ _⟩
 ·rw [r9.f,if_neg hl] at h;have H:=aC.mk (Option.some.inj h);clear h;have c1:decide (2000<(a0.size:Int))=false:=by simp;omega
  have c2:decide (2000<a0.size)=false:=by simp;omega
  have hu:=Tryd.underlying108;have HL:=aC.mk hl;clear hl;go_enter Tryd.func31,Tryd.ntmps31
  go_wp2
  go_loopw [2,5] (fun v2 v5 wr=>∃ (pos e:Nat) (acc:List Tok),v5= .int .i64 e∧aC (wr.heap[w.heap.size]? =some (.stringIter a0 pos))∧aC (Below w.heap.size w wr)∧aC (Kd.R k108 108 wr w.heap.size (fun k=>k≠w.heap.size) v2 acc)∧aC (tokScan a0 (a0.data.toList.drop pos) pos e acc=(r1,r2,r3))∧aC (pos≤a0.size∧e≤a0.size∧acc.length≤pos∧e - pos≤sgnRow (a0.data.toList.drop pos))) (fun _ _ wr=>a0.size - wr.iterPos w.heap.size)
  case atStart=>
   refine ⟨0,0,[],by simp,⟨?_⟩,⟨?_⟩,⟨Kd.jZ _ _ _ _ _⟩,⟨by simpa using H.out⟩,⟨by simp⟩⟩;·have:=World.iter_heap w a0 0;simpa using this
   ·exact (Below.refl _ w).alloc (Nat.le_refl _) _
  case round=>
   obtain ⟨pos,e,acc,rfl,JY,hbw,HO,HT,HI⟩:=hrel;have hit:=JY.out;have hsz:w.heap.size<wr.heap.size:=(Array.getElem?_eq_some_iff.1 hit).1;have aJG:a0.size≤2000:=by have:=HL.out;omega
   have hle:pos≤a0.size:=HI.out.1;have hee:e≤a0.size:=HI.out.2.1;by_cases hp:pos<a0.size
   ·
    have hdc:=aC.mk (ZW a0 pos hp);have hm:aC (wr.iterPos w.heap.size=pos):=⟨by simp [World.iterPos,hit]⟩;have hdr:=aC.mk (drop_cons a0 pos hp);have hT:=HT.out;rw [hdr.out] at hT;simp only [tokScan] at hT;have hsr:aC (sgnRow (a0.data.toList.drop pos)=if signB a0[pos] then sgnRow (a0.data.toList.drop (pos+1))+1 else 0):=⟨by rw [hdr.out];rfl⟩;have hI:=HI.out;have hsl:sgnRow (a0.data.toList.drop pos)≤a0.size - pos:=by
     have:=PZ (a0.data.toList.drop pos);simpa using this
    have hmes: ∀ n,aC (((wr.iterAt w.heap.size a0 (pos+1)).drewN n).iterPos w.heap.size=pos+1):=fun n=>⟨by
     have:=Lib.iterAt_heap wr w.heap.size a0 pos (pos+1) hit;simp [World.iterPos,World.drewN,this]⟩
    have aoV:aC ((wr.iterAt w.heap.size a0 (pos+1)).iterPos w.heap.size=pos+1):=⟨by
     have:=Lib.iterAt_heap wr w.heap.size a0 pos (pos+1) hit;simp [World.iterPos,this]⟩
    have tX:=aC.mk (Lib.iterAt_heap wr w.heap.size a0 pos (pos+1) hit);have rK:=aC.mk (Lib.below_iterAt hbw.out (k:=w.heap.size) (Nat.le_refl _) a0 (pos+1));have qQ:=aC.mk (axP HO.out w.heap.size a0 (pos+1) (fun _ hk=>hk));have yF:aC (w.heap.size<(wr.iterAt w.heap.size a0 (pos+1)).heap.size):=⟨by rw [Lib.iterAt_size];exact hsz⟩;by_cases hA:pos<e∨blankB a0[pos]=true
    ·have ha:a0[pos].toNat<128:=by
      rcases hA with hA|hA
      ·cases hs:signB a0[pos] with
       |true=>exact aeN _ hs
       |false=>rw [hsr.out,hs] at hI;simp at hI;omega
      ·exact au0 _ hA
     have hnx: ∀ ty,(Instr.next (.pointer (some ⟨w.heap.size,0,none⟩)) true ty).run Tryd.prog wr=_:=fun ty=>Lib.run_next_ascii_at wr w.heap.size a0 pos ty hit hp ha
     rw [if_pos hA] at hT;have sB:=aC.mk hT;have vL:aC (pos+1≤a0.size∧e≤a0.size∧acc.length≤pos+1∧e - (pos+1)≤sgnRow (a0.data.toList.drop (pos+1))):=⟨by
      refine ⟨by omega,by omega,by omega,?_⟩;have h4:=hI.2.2.2;rw [hsr.out] at h4;cases hs:signB a0[pos]<;>simp [hs] at h4<;>omega⟩
     clear hT hit hI;by_cases hpe:pos<e
     ·have d1:decide ((pos:Int)<(e:Int))=true:=by simp;omega
      have d2:decide (pos<e)=true:=by simp;omega
      clear hA hsl;go_wp2
      go_roundw
      case rel=>exact ⟨pos+1,e,acc,rfl,⟨tX.out⟩,⟨rK.out⟩,⟨qQ.out⟩,sB,vL⟩
      case measure=>rw [hm.out,aoV.out];omega
     ·have hb:blankB a0[pos]=true:=by simpa [hpe] using hA
      have d1:decide ((pos:Int)<(e:Int))=false:=by simp;omega
      have d2:decide (pos<e)=false:=by simp;omega
      have hs:aC (rO.f (a0[pos].toNat:Int)=some true):=⟨by rw [UR,adA,hb]⟩;clear hA hsl hb;go_wp2_with (go_at_call 58;refine (rO.calls (a0[pos].toNat:Int) true _ hs.out).mono ?_;rintro e w' ⟨rfl,⟨nd,rfl⟩⟩)
      go_roundw
      case rel=>exact ⟨pos+1,e,acc,rfl,⟨tX.out⟩,⟨aN rK.out _⟩,⟨Kd.bA qQ.out _⟩,sB,vL⟩
      case measure=>rw [hm.out,(hmes nd).out];omega
    ·rw [if_neg hA] at hT;have hpe: ¬ pos<e:=fun h=>hA (.inl h)
     have hb:blankB a0[pos]=false:=by simpa using fun h=>hA (.inr h)
     have d1:decide ((pos:Int)<(e:Int))=false:=by simp;omega
     have d2:decide (pos<e)=false:=by simp;omega
     clear hA;by_cases ha:a0[pos].toNat<128
     ·have hnx: ∀ ty,(Instr.next (.pointer (some ⟨w.heap.size,0,none⟩)) true ty).run Tryd.prog wr=_:=fun ty=>Lib.run_next_ascii_at wr w.heap.size a0 pos ty hit hp ha
      have hs:aC (rO.f (a0[pos].toNat:Int)=some false):=⟨by rw [UR,adA,hb]⟩;have n123:=acD a0[pos] 123 (by omega);have n125:=acD a0[pos] 125 (by omega);by_cases I3:a0[pos]=123
      ·rw [if_pos I3] at hT;have sB:=aC.mk hT;have vT:((a0[pos].toNat:Int)==123)=true:=by rw [show ((123:Int))=((123:Nat):Int) from rfl,n123,I3];rfl
       have vL:aC (pos+1≤a0.size∧e≤a0.size∧(acc++ [(⟨2,(pos:Int),(⟨#[]⟩:ByteArray)⟩:Tok)]).length≤pos+1∧e - (pos+1)≤sgnRow (a0.data.toList.drop (pos+1))):=⟨by
        refine ⟨by omega,by omega,by simp;omega,by omega⟩⟩
       clear hT hit hI I3 n123 n125 hpe hb hsl ha;go_wp2_with (first|(go_at_call 58;refine (rO.calls (a0[pos].toNat:Int) false _ hs.out).mono ?_;rintro e w' ⟨rfl,⟨nd,rfl⟩⟩)|((with_reducible refine lB (b:=.append) (xs:=#[.tmp 29,.tmp 32]) rfl ?_);at_builtin;refine Kd.n9 k108 (w0:=w) w.heap.size rfl (.tmp 29) (.tmp 32) 61 108 (.agg #[(.int .i64 0),(.int .i64 0),(.string ⟨#[]⟩)]) 32 rfl Tryd.underlying61 info108 rfl (by decide) (by omega) u2 acc (⟨2,(pos:Int),(⟨#[]⟩:ByteArray)⟩:Tok) [.int .i64 2,.int .i64 pos,.string (⟨#[]⟩:ByteArray)] (fun k=>k≠w.heap.size) (fun _=>False) rfl rfl ?aP (fun _ hk=>hk.elim) ?aF ?aO ?aB ?aS ?aL ?_;(case aP=>exact XG _ _ _ (⟨2,(pos:Int),(⟨#[]⟩:ByteArray)⟩:Tok));(case aB=>exact aN rK.out _);(case aF=>exact (fun k hk=>by have:=yF.out;simp only [World.drewN] at hk;omega));(case aO=>exact Kd.bA qQ.out _);(case aS=>exact Nat.le_of_lt yF.out);(case aL=>have:=HI.out;omega);intro qY JV ho hb_ hg hat;have FO:=aC.mk ho;have JF:=aC.mk hb_;have yG:=aC.mk (XF (W:=(wr.iterAt w.heap.size a0 (pos+1)).drewN nd) tX.out hg (UM qQ.out));clear ho hb_ hg hat))
       go_roundw
       case rel=>exact ⟨pos+1,e,acc++ [⟨2,(pos:Int),(⟨#[]⟩:ByteArray)⟩],rfl,⟨yG.out⟩,⟨JF.out⟩,⟨FO.out⟩,sB,vL⟩
       case measure=>
        have h3:JV.iterPos w.heap.size=pos+1:=by have:=yG.out;simp [World.iterPos,this]
        rw [hm.out,h3];omega
      rw [if_neg I3] at hT;have vT:((a0[pos].toNat:Int)==123)=false:=by rw [show ((123:Int))=((123:Nat):Int) from rfl,n123];simpa using I3
      by_cases GU:a0[pos]=125
      ·rw [if_pos GU] at hT;have sB:=aC.mk hT;have ajK:((a0[pos].toNat:Int)==125)=true:=by rw [show ((125:Int))=((125:Nat):Int) from rfl,n125,GU];rfl
       have vL:aC (pos+1≤a0.size∧e≤a0.size∧(acc++ [(⟨3,(pos:Int),(⟨#[]⟩:ByteArray)⟩:Tok)]).length≤pos+1∧e - (pos+1)≤sgnRow (a0.data.toList.drop (pos+1))):=⟨by
        refine ⟨by omega,by omega,by simp;omega,by omega⟩⟩
       clear hT hit hI GU n123 n125 hpe hb hsl ha;go_wp2_with (first|(go_at_call 58;refine (rO.calls (a0[pos].toNat:Int) false _ hs.out).mono ?_;rintro e w' ⟨rfl,⟨nd,rfl⟩⟩)|((with_reducible refine lB (b:=.append) (xs:=#[.tmp 37,.tmp 40]) rfl ?_);at_builtin;refine Kd.n9 k108 (w0:=w) w.heap.size rfl (.tmp 37) (.tmp 40) 61 108 (.agg #[(.int .i64 0),(.int .i64 0),(.string ⟨#[]⟩)]) 32 rfl Tryd.underlying61 info108 rfl (by decide) (by omega) u2 acc (⟨3,(pos:Int),(⟨#[]⟩:ByteArray)⟩:Tok) [.int .i64 3,.int .i64 pos,.string (⟨#[]⟩:ByteArray)] (fun k=>k≠w.heap.size) (fun _=>False) rfl rfl ?aP (fun _ hk=>hk.elim) ?aF ?aO ?aB ?aS ?aL ?_;(case aP=>exact XG _ _ _ (⟨3,(pos:Int),(⟨#[]⟩:ByteArray)⟩:Tok));(case aB=>exact aN rK.out _);(case aF=>exact (fun k hk=>by have:=yF.out;simp only [World.drewN] at hk;omega));(case aO=>exact Kd.bA qQ.out _);(case aS=>exact Nat.le_of_lt yF.out);(case aL=>have:=HI.out;omega);intro qY JV ho hb_ hg hat;have FO:=aC.mk ho;have JF:=aC.mk hb_;have yG:=aC.mk (XF (W:=(wr.iterAt w.heap.size a0 (pos+1)).drewN nd) tX.out hg (UM qQ.out));clear ho hb_ hg hat))
       go_roundw
       case rel=>exact ⟨pos+1,e,acc++ [⟨3,(pos:Int),(⟨#[]⟩:ByteArray)⟩],rfl,⟨yG.out⟩,⟨JF.out⟩,⟨FO.out⟩,sB,vL⟩
       case measure=>
        have h3:JV.iterPos w.heap.size=pos+1:=by have:=yG.out;simp [World.iterPos,this]
        rw [hm.out,h3];omega
      rw [if_neg GU] at hT;have ajK:((a0[pos].toNat:Int)==125)=false:=by rw [show ((125:Int))=((125:Nat):Int) from rfl,n125];simpa using GU
      clear n123 n125 hpe hb;by_cases hlet:letterB a0[pos]=true
      ·rw [if_pos hlet,← hdr.out] at hT;have sB:=aC.mk hT;have hlt:aC (lY.f (a0[pos].toNat:Int)=some true):=⟨by rw [EE,RD,hlet]⟩;have hrow:aC (xM.f (a0.extract pos a0.size)=some (sgnRow (a0.data.toList.drop pos):Int)):=⟨by
        unfold xM.f
        rw [Lib.extract_data];congr 3
        rw [List.take_of_length_le (by simp)]⟩
       have vL:aC (pos+1≤a0.size∧pos+sgnRow (a0.data.toList.drop pos)≤a0.size∧(acc++ [(⟨1,(pos:Int),a0.extract pos (pos+sgnRow (a0.data.toList.drop pos))⟩:Tok)]).length≤pos+1∧pos+sgnRow (a0.data.toList.drop pos) - (pos+1)≤sgnRow (a0.data.toList.drop (pos+1))):=⟨by
        refine ⟨by omega,by omega,by simp;omega,?_⟩;rw [hsr.out,av0 _ hlet,if_pos rfl];omega⟩
       clear hT hit hI ha hlet;generalize sgnRow (a0.data.toList.drop pos)=len at *;go_wp2_with (first|(go_at_call 58;refine (rO.calls (a0[pos].toNat:Int) false _ hs.out).mono ?_;rintro e w' ⟨rfl,⟨nd,rfl⟩⟩)|(go_at_call 59;refine (lY.calls (a0[pos].toNat:Int) true _ hlt.out).mono ?_;rintro e w' ⟨rfl,⟨aeS,rfl⟩⟩)|(go_at_call 60;refine (xM.calls (a0.extract pos a0.size) (len:Int) _ hrow.out).mono ?_;rintro e AQ ⟨rfl,hbr⟩;have PQ:=aC.mk (Kd.dC (by first|exact Kd.bA (Kd.bA qQ.out _) _|exact Kd.bA qQ.out _) hbr);have aiC:aC (w.heap.size<AQ.heap.size):=⟨Nat.lt_of_lt_of_le yF.out hbr.size⟩;have atN:aC (AQ.heap[w.heap.size]? =some (.stringIter a0 (pos+1))):=⟨(hbr.block w.heap.size yF.out).trans tX.out⟩;have azA:aC (Below w.heap.size w AQ):=⟨LK (aN rK.out _) (Nat.le_of_lt yF.out) hbr⟩;clear hbr)|((with_reducible refine lB (b:=.append) (xs:=#[.tmp 51,.tmp 58]) rfl ?_);at_builtin;refine Kd.n9 k108 (w0:=w) w.heap.size rfl (.tmp 51) (.tmp 58) 61 108 (.agg #[(.int .i64 0),(.int .i64 0),(.string ⟨#[]⟩)]) 32 rfl Tryd.underlying61 info108 rfl (by decide) (by omega) u2 acc (⟨1,(pos:Int),a0.extract pos (pos+len)⟩:Tok) [.int .i64 1,.int .i64 pos,.string (a0.extract pos (pos+len))] (fun k=>k≠w.heap.size) (fun _=>False) rfl rfl ?aP (fun _ hk=>hk.elim) ?aF ?aO ?aB ?aS ?aL ?_;(case aP=>exact XG _ _ _ (⟨1,(pos:Int),a0.extract pos (pos+len)⟩:Tok));(case aB=>exact azA.out);(case aF=>exact (fun k hk=>by have:=aiC.out;omega));(case aO=>exact PQ.out);(case aS=>exact Nat.le_of_lt aiC.out);(case aL=>have:=HI.out;omega);intro qY JV ho hb_ hg hat;have FO:=aC.mk ho;have JF:=aC.mk hb_;have yG:=aC.mk (XF atN.out hg (UM PQ.out));clear ho hb_ hg hat))
       go_roundw
       case rel=>exact ⟨pos+1,pos+len,acc++ [⟨1,(pos:Int),a0.extract pos (pos+len)⟩],by go_num,⟨yG.out⟩,⟨JF.out⟩,⟨FO.out⟩,sB,vL⟩
       case measure=>
        have h3:JV.iterPos w.heap.size=pos+1:=by have:=yG.out;simp [World.iterPos,this]
        rw [hm.out,h3];omega
      ·rw [if_neg hlet] at hT;simp only [Prod.mk.injEq] at hT;obtain ⟨rfl,rfl,rfl⟩:=hT;have hlt:aC (lY.f (a0[pos].toNat:Int)=some false):=⟨by rw [EE,RD];simpa using hlet⟩;clear hit hI ha hlet;go_wp2_with (first|(go_at_call 58;refine (rO.calls (a0[pos].toNat:Int) false _ hs.out).mono ?_;rintro e w' ⟨rfl,⟨nd,rfl⟩⟩)|(go_at_call 59;refine (lY.calls (a0[pos].toNat:Int) false _ hlt.out).mono ?_;rintro e w' ⟨rfl,⟨aeS,rfl⟩⟩))
       go_ret3
       exact ⟨_,rfl,Kd.jZ _ _ _ _ _,aN rK.out _⟩
     ·have hnx: ∀ ty,(Instr.next (.pointer (some ⟨w.heap.size,0,none⟩)) true ty).run Tryd.prog wr=_:=fun ty=>Lib.run_next_any_at wr w.heap.size a0 pos ty hit hp
      have axW:=aC.mk (Lib.below_iterAt hbw.out (k:=w.heap.size) (Nat.le_refl _) a0 (pos+(Utf8.decode a0 pos).2));have aiL:=decode_le a0 pos;have axU:128≤(Utf8.decode a0 pos).1:=by rcases hdc.out with ⟨h,_⟩|⟨_,h⟩<;>omega
      have hhi:128≤a0[pos].toNat:=by omega
      have hs:aC (rO.f ((Utf8.decode a0 pos).1:Int)=some false):=⟨by
       rw [UR];have e1:(((Utf8.decode a0 pos).1:Int)==32)=false:=by simp;omega
       have e2:(((Utf8.decode a0 pos).1:Int)==9)=false:=by simp;omega
       have e3:(((Utf8.decode a0 pos).1:Int)==10)=false:=by simp;omega
       rw [e1,e2,e3];rfl⟩
      have hlt:aC (lY.f ((Utf8.decode a0 pos).1:Int)=some false):=⟨by
       rw [EE];have e1: ¬ ((Utf8.decode a0 pos).1:Int)≤122:=by omega
       simp [e1]⟩
      have vT:(((Utf8.decode a0 pos).1:Int)==123)=false:=by simp;omega
      have ajK:(((Utf8.decode a0 pos).1:Int)==125)=false:=by simp;omega
      rw [if_neg (aa6 _ 123 (by decide) hhi),if_neg (aa6 _ 125 (by decide) hhi),if_neg (by rw [aw3 _ hhi];decide)] at hT;simp only [Prod.mk.injEq] at hT;obtain ⟨rfl,rfl,rfl⟩:=hT;clear hit hI ha hpe hb hsl hhi axU;go_wp2_with (first|(go_at_call 58;refine (rO.calls ((Utf8.decode a0 pos).1:Int) false _ hs.out).mono ?_;rintro e w' ⟨rfl,⟨nd,rfl⟩⟩)|(go_at_call 59;refine (lY.calls ((Utf8.decode a0 pos).1:Int) false _ hlt.out).mono ?_;rintro e w' ⟨rfl,⟨aeS,rfl⟩⟩))
      go_ret3
      exact ⟨_,rfl,Kd.jZ _ _ _ _ _,aN axW.out _⟩
   ·have hnx: ∀ ty,(Instr.next (.pointer (some ⟨w.heap.size,0,none⟩)) true ty).run Tryd.prog wr=_:=fun ty=>Lib.run_next_end_at wr w.heap.size a0 pos ty hit hp
    have hT:=HT.out;rw [List.drop_of_length_le (by simp;omega)] at hT;simp only [tokScan,Prod.mk.injEq] at hT;obtain ⟨rfl,rfl,rfl⟩:=hT;clear hit;go_wp2
    go_ret3
    exact ⟨_,rfl,Kd.bW HO.out (fun _ _=>trivial),hbw.out⟩
end Go.Proofs.YtkmafndljelopaaDoor.Q
