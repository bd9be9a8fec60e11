/- Plain functions on bytes for the tokens: what the code of lex comes to. No program in sight. -/
namespace Go.Proofs.YtkmafndljelopaaDoor.Lx
def letterB (c:UInt8):Bool:=97≤c && c≤122
def signB (c:UInt8):Bool:=letterB c||(48≤c && c≤57)
def blankB (c:UInt8):Bool:=c==32||c==9||c==10
def sgnRow:List UInt8→Nat
 |[]=>0
 |c::r=>if signB c then sgnRow r+1 else 0
theorem PZ: ∀ l,sgnRow l≤l.length
 |[]=>Nat.le_refl _
 |c::r=>by simp only [sgnRow,List.length_cons];split<;>have:=PZ r<;>omega
def wordsC:List (List UInt8):= [[118,97,114],[108,111,99,107],[102,117,110,99],[117,115,101],[115,101,116],[117,110,108,111,99,107],[99,97,108,108],[115,112,97,119,110],[105,102],[101,108,115,101],[108,111,111,112]]
def nameB (l:List UInt8):Bool:=
 match l with
 |[]=>false
 |c::r=>decide (r.length<12) && letterB c && decide (sgnRow (c::r)=r.length+1) && !(wordsC.contains (c::r))
end Go.Proofs.YtkmafndljelopaaDoor.Lx
