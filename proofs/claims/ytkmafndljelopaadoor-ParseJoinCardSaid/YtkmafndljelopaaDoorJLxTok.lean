/- lex.Tokens in the plain words of tokens (the part of LexLink that needs nothing of the document's). -/
import Derived.Test.YtkmafndljelopaaDoorJLexTok
import Derived.Test.YtkmafndljelopaaDoorJLexPure
namespace Go.Proofs.YtkmafndljelopaaDoor.Q
open Go.RowKit Go.Proofs.YtkmafndljelopaaDoorW.PrintWords Go.Proofs.YtkmafndljelopaaDoorW.PrintLast Go.Proofs.YtkmafndljelopaaDoorW.PrintMore Go.Proofs.YtkmafndljelopaaDoor.Lx
set_option linter.unusedVariables false
set_option linter.unusedSimpArgs false
def mkTok (t:Tk):Tok:=⟨(t.kind:Int),(t.at_:Int),⟨t.txt.toArray⟩⟩
def toRes (acc:List Tok):Res→List Tok×Int×Int
 | .bad i=>([],(i:Int),6)
 | .ok l=>(acc++l.map mkTok,0,0)
theorem AY {a b:ByteArray} (h:a.data.toList=b.data.toList):a=b:=by
 cases a;cases b
 simp only [ByteArray.mk.injEq];exact Array.ext' h
theorem extract_mk (s:ByteArray) (i n:Nat):s.extract i (i+n)=⟨((s.data.toList.drop i).take n).toArray⟩:=by
 apply AY;rw [Lib.extract_data,show i+n - i=n by omega]
theorem ZL (s:ByteArray): ∀ (l:List UInt8) (i e:Nat) (acc:List Tok),l=s.data.toList.drop i→tokScan s l i e acc=toRes acc (lx l i e)
 |[],i,e,acc,_=>by simp [tokScan,lx,toRes]
 |c::r,i,e,acc,hl=>by
  have hr:r=s.data.toList.drop (i+1):=by
   rw [← List.drop_drop,← hl];rfl
  have ih:=fun e acc=>ZL s r (i+1) e acc hr
  have hcons: ∀ t acc x,toRes acc (Res.cons t x)=toRes (acc++ [mkTok t]) x:=by
   intro t acc x;cases x<;>simp [toRes,Res.cons]
  rw [tokScan,lx];split
  ·exact ih _ _
  ·split
   ·rw [hcons,ih];rfl
   ·split
    ·rw [hcons,ih];rfl
    ·split
     ·rw [hcons,ih,extract_mk,← hl];rfl
     ·rfl
theorem acH (s:ByteArray):r9.f s=if s.size>2000 then some ([],0,2) else some (toRes [] (lx s.data.toList 0 0)):=by
 rw [r9.f,ZL s s.data.toList 0 0 [] (by simp)]
theorem awA (a b:List UInt8):(⟨a.toArray⟩:ByteArray)++⟨b.toArray⟩=⟨(a++b).toArray⟩:=by
 apply AY;simp
end Go.Proofs.YtkmafndljelopaaDoor.Q
