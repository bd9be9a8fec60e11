/- lex.Tokens in the plain words of tokens (the part of LexLink that needs nothing of the document's). -/
import Derived.Test.YtkmafndljelopaaDoorTLexTok
import Derived.Test.YtkmafndljelopaaDoorTLexPure
namespace Go.Proofs.YtkmafndljelopaaDoor.Q
open Go.RowKit Go.Proofs.YtkmafndljelopaaDoorW.PrintWords Go.Proofs.YtkmafndljelopaaDoorW.PrintLast Go.Proofs.YtkmafndljelopaaDoorW.PrintMore Go.Proofs.YtkmafndljelopaaDoor.Lx
set_option linter.unusedVariables false
set_option linter.unusedSimpArgs false
def mkTok (t:Tk):Tok:=⟨(t.kind:Int),(t.at_:Int),⟨t.txt.toArray⟩⟩
theorem ba_ext {a b:ByteArray} (h:a.data.toList=b.data.toList):a=b:=by
 cases a;cases b
 simp only [ByteArray.mk.injEq];exact Array.ext' h
end Go.Proofs.YtkmafndljelopaaDoor.Q
