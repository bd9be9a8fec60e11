/- Tokens of a list of bytes, in plain words: how they are told, and that of two texts put together they are those of both where no row of signs runs across. No program in sight. -/
import Derived.Test.YtkmafndljelopaaDoorJLexSpec
namespace Go.Proofs.YtkmafndljelopaaDoor.Lx
structure Tk where
 kind:Nat
 at_:Nat
 txt:List UInt8
deriving DecidableEq,Repr
inductive Res where
 |bad (at_:Nat)
 |ok (l:List Tk)
deriving DecidableEq,Repr
def Res.cons (t:Tk):Res→Res
 | .bad i=>.bad i
 | .ok l=>.ok (t::l)
def Res.app:Res→Res→Res
 | .bad i,_=>.bad i
 | .ok _,.bad i=>.bad i
 | .ok l,.ok m=>.ok (l++m)
def lx:List UInt8→Nat→Nat→Res
 |[],_,_=>.ok []
 |c::r,i,e=>
  if i<e∨blankB c=true then lx r (i+1) e
  else if c=123 then (lx r (i+1) e).cons ⟨2,i,[]⟩
  else if c=125 then (lx r (i+1) e).cons ⟨3,i,[]⟩
  else if letterB c=true then (lx r (i+1) (i+sgnRow (c::r))).cons ⟨1,i,(c::r).take (sgnRow (c::r))⟩
  else .bad i
theorem Res.QL (t:Tk) (x y:Res):(x.cons t).app y=(x.app y).cons t:=by
 cases x<;>cases y<;>rfl
theorem Res.acS (x:Res):(Res.ok []).app x=x:=by cases x <;> simp [Res.app]
theorem QS: ∀ (l:List UInt8) (i e e':Nat),e≤i→e'≤i→lx l i e=lx l i e'
 |[],_,_,_,_,_=>rfl
 |c::r,i,e,e',h,h'=>by
  have ih:=QS r (i+1) e e' (by omega) (by omega);simp only [lx,show ¬ i<e by omega,show ¬ i<e' by omega,false_or,ih]
def apart (a b:List UInt8):Prop:= ∀ x∈a.getLast?,∀ y∈b.head?,¬ (signB x=true∧signB y=true)
theorem ahF: ∀ (a b:List UInt8),apart a b→a≠ []→sgnRow (a++b)=sgnRow a
 |[],_,_,h=>absurd rfl h
 |[c],b,h,_=>by
  simp only [List.cons_append,List.nil_append,sgnRow];cases hc:signB c with
  |false=>rfl
  |true=>
   cases b with
   |nil=>rfl
   |cons y s=>
    have:signB y=false:=by
     cases hy:signB y with
     |false=>rfl
     |true=>exact absurd ⟨hc,hy⟩ (h c (by simp) y (by simp))
    simp [sgnRow,this]
 |c::d::r,b,h,_=>by
  have ih:=ahF (d::r) b (fun x hx=>h x (by simpa using hx)) (by simp);simp only [List.cons_append] at ih ⊢;rw [sgnRow,ih];conv=>rhs;rw [sgnRow]
theorem ayQ {c:UInt8} {r b:List UInt8} (h:apart (c::r) b) (hr:r≠ []):apart r b:=by
 cases r with
 |nil=>exact absurd rfl hr
 |cons d s=>exact fun x hx=>h x (by simpa using hx)
theorem XV: ∀ (a b:List UInt8) (i e:Nat),apart a b→e≤i+a.length→lx (a++b) i e=(lx a i e).app (lx b (i+a.length) 0)
 |[],b,i,e,_,he=>by
  simp only [List.nil_append,lx,List.length_nil,Nat.add_zero] at he ⊢;rw [Res.acS,QS b i e 0 he (by omega)]
 |c::r,b,i,e,h,he=>by
  have hap: ∀ e',e'≤i+1+r.length→lx (r++b) (i+1) e'=(lx r (i+1) e').app (lx b (i+1+r.length) 0):=by
   intro e' he';cases r with
   |nil=>
    simp only [List.nil_append,lx,List.length_nil,Nat.add_zero] at he' ⊢;rw [Res.acS,QS b (i+1) e' 0 he' (by omega)]
   |cons d s=>exact XV (d::s) b (i+1) e' (ayQ h (by simp)) he'
  have hl:i+(c::r).length=i+1+r.length:=by simp;omega
  rw [hl] at he ⊢;have hs:=ahF (c::r) b h (by simp);have hle:=PZ (c::r);simp only [List.cons_append] at hs ⊢;simp only [List.length_cons] at hle;rw [lx,lx,hs];split
  ·exact hap e he
  ·split
   ·rw [hap e he,Res.QL]
   ·split
    ·rw [hap e he,Res.QL]
    ·split
     ·rw [hap _ (by omega),Res.QL];have:(c::(r++b)).take (sgnRow (c::r))=(c::r).take (sgnRow (c::r)):=by
       rw [← List.cons_append,List.take_append_of_le_length (by simpa using hle)]
      rw [this]
     ·rfl
theorem au5 {a b:List UInt8} {y:UInt8} (h:b.head? =some y) (hy:signB y=false):apart a b:=by
 intro x _ z hz hs;rw [h] at hz;obtain rfl:=Option.some.inj hz;rw [hy] at hs;exact absurd hs.2 (by decide)
theorem azZ {a b:List UInt8} {x:UInt8} (h:a.getLast? =some x) (hx:signB x=false):apart a b:=by
 intro z hz y _ hs;rw [h] at hz;obtain rfl:=Option.some.inj hz;rw [hx] at hs;exact absurd hs.1 (by decide)
def Tk.word (t:Tk):List UInt8:=if t.kind=2 then [123] else if t.kind=3 then [125] else t.txt
def TkOk (t:Tk):Prop:=(t.kind=2∧t.txt= [])∨(t.kind=3∧t.txt= [])∨(t.kind=1∧ ∃ c r,t.txt=c::r∧letterB c=true∧(c::r).all signB=true)
inductive Along (s:List UInt8):Nat→List Tk→Prop
 |nil (e:Nat):Along s e []
 |cons {e:Nat} {t:Tk} {l:List Tk} :e≤t.at_→t.at_+t.word.length≤s.length→(s.drop t.at_).take t.word.length=t.word→TkOk t→Along s (t.at_+t.word.length) l→Along s e (t::l)
theorem Along.mono {s:List UInt8} {e e':Nat} {l:List Tk} (h:Along s e l) (he:e'≤e):Along s e' l:=by
 cases h with
 |nil=>exact .nil _
 |cons a b c d f=>exact .cons (Nat.le_trans he a) b c d f
theorem agL: ∀ l:List UInt8,(l.take (sgnRow l)).all signB=true
 |[]=>rfl
 |c::r=>by
  by_cases h:signB c=true
  ·simp [sgnRow,h,agL r]
  ·simp [sgnRow,h]
theorem abR: ∀ (l:List UInt8) (i e:Nat),i+l.length≤e→lx l i e= .ok []
 |[],_,_,_=>rfl
 |c::r,i,e,h=>by
  simp only [List.length_cons] at h;rw [lx,if_pos (.inl (by omega))];exact abR r (i+1) e (by omega)
theorem aaJ: ∀ l:List UInt8,l.all signB=true→sgnRow l=l.length
 |[],_=>rfl
 |c::r,h=>by
  simp only [List.all_cons,Bool.and_eq_true] at h;rw [sgnRow,if_pos h.1,aaJ r h.2];rfl
theorem aAA (c:UInt8) (h:letterB c=true):blankB c=false∧c≠123∧c≠125:=by
 have: ∀ n:Nat,n<256→letterB (UInt8.ofNat n)=true→blankB (UInt8.ofNat n)=false∧UInt8.ofNat n≠123∧UInt8.ofNat n≠125:=by decide+kernel
 have:=this c.toNat c.toNat_lt;rw [UInt8.ofNat_toNat] at this;exact this h
end Go.Proofs.YtkmafndljelopaaDoor.Lx
