/- Raw statements that came in, read: what a row's arguments of the type []Raw are in memory. -/
import Derived.Test.YtkmafndljelopaaDoorJQ0
import Derived.ProofKit
import Derived.Lib.SmallJoins
import Derived.ChangeSlices
import Derived.Below
namespace Go.Proofs.YtkmafndljelopaaDoor.Q
open Go.RowKit Go.Proofs.YtkmafndljelopaaDoorW.PrintWords Go.Proofs.YtkmafndljelopaaDoorW.PrintLast Go.Proofs.YtkmafndljelopaaDoorW.PrintMore
set_option linter.unusedVariables false
set_option linter.unusedSimpArgs false
abbrev Raw6:=S105
theorem auD:Tryd.prog.cellsOf 105=4:=by kernel_rfl
theorem auJ:Tryd.prog.cellsOf 22=1:=by kernel_rfl
theorem awB:Tryd.prog.cellsOf 3=1:=by kernel_rfl
section
variable {P:Program} {f0 f1 f2 f3:Field} (hs:P.underlying 22=some (.slice 105)) (hr:P.underlying 105=some (.struct #[f0,f1,f2,f3])) (hi:P.underlying 3=some (.int .i64))
 (hf:f0.type=3∧f0.offset=0∧f1.type=3∧f1.offset=1∧f2.type=22∧f2.offset=2∧f3.type=22∧f3.offset=3)
 (cr:P.cellsOf 105=4) (cs_:P.cellsOf 22=1) (ci:P.cellsOf 3=1)
variable {H:Type} {enc:TypeId×Value→H} {w:World} {base:Nat} {spare:Nat→Bool} {held:Bool}
include hs hr hi hf cr cs_ ci
theorem akI: ∀ fuel,
  (∀ cs x,DataW.trod enc P w base spare held fuel 22 cs=some x→ ∃ A cap xs,cs= [.slice A xs.length cap]∧xs.length≤cap∧Kd.C k105 w A xs.length xs)∧
  (∀ cs x,DataW.trod enc P w base spare held fuel 105 cs=some x→ ∃ y:Raw6,k105.K w y cs)
 |0=>⟨fun cs x h=>by simp [DataW.trod] at h,fun cs x h=>by simp [DataW.trod] at h⟩
 |fuel+1=>by
  obtain ⟨fD,iH⟩:=akI fuel;constructor
  ·intro cs x h;rcases DataW.trod_slice hs h with ⟨rfl,rfl⟩|⟨a,len,cap,elems,rest,n,hn,rfl,rfl,hb,hl,hm,hlen,hel,hsp,hns⟩
   ·exact ⟨none,0,[],rfl,Nat.le_refl _,rfl,by simp,fun h=>absurd h (by simp)⟩
   ·obtain rfl:fuel=n:=by omega
    have each: ∀ i,i<len→ ∃ y:Raw6,∃ c,k105.K w y c∧c.length=4∧ ∀ j u,c[j]? =some u→w.cell? (a.add (i * 4+j))=some u:=by
     intro i hi;have h1:=hel i hi;rw [cr,List.getElem?_eq_getElem (by omega)] at h1;obtain ⟨cs',hcs,hy⟩:=Option.bind_eq_some_iff.mp h1;obtain ⟨y,hy⟩:=iH _ _ hy;obtain ⟨_,hcl,hcc⟩:=World.cells?_some hcs;refine ⟨y,cs',hy,hcl,fun j u hu=>?_⟩;have hj:j<cs'.length:=(List.getElem?_eq_some_iff.1 hu).1;have:=hcc j (by omega);rw [hu] at this;rw [← this];congr 1
     unfold Addr.add
     split<;>split<;>split<;>simp_all<;>omega
    have hall: ∃ ys:List Raw6,ys.length=len∧ ∀ i y,ys[i]? =some y→ ∃ c,c.length=4∧k105.K w y c∧ ∀ j u,c[j]? =some u→w.cell? (a.add (i * 4+j))=some u:=by
     have: ∀ m,m≤len→ ∃ ys:List Raw6,ys.length=m∧ ∀ i y,ys[i]? =some y→ ∃ c,c.length=4∧k105.K w y c∧ ∀ j u,c[j]? =some u→w.cell? (a.add (i * 4+j))=some u:=by
      intro m;induction m with
      |zero=>exact fun _=>⟨[],rfl,fun i y h=>by simp at h⟩
      |succ m ih=>
       intro hm';obtain ⟨ys,jN,akQ⟩:=ih (by omega);obtain ⟨y,c,h1,h2,h3⟩:=each m (by omega);refine ⟨ys++ [y],by simp [jN],fun i z hz=>?_⟩;by_cases hi:i<ys.length
       ·rw [List.getElem?_append_left hi] at hz;exact akQ i z hz
       ·rw [List.getElem?_append_right (by omega)] at hz;have amZ:i - ys.length=0:=by
         have:=(List.getElem?_eq_some_iff.1 hz).1;simpa using this
        rw [amZ] at hz;simp at hz
        subst hz;obtain rfl:i=m:=by omega
        exact ⟨c,h2,h1,h3⟩
     exact this len (Nat.le_refl _)
    obtain ⟨ys,rfl,hys⟩:=hall;exact ⟨some a,cap,ys,rfl,hl,rfl,by simp only [maxLen] at hm;omega,fun _=>⟨a,rfl,hys⟩⟩
  ·intro cs x h;obtain ⟨xs,n,hn,rfl,hl,hlen,hf_⟩:=DataW.trod_struct hr h;obtain rfl:fuel=n:=by omega
   rw [cr] at hl;have h0:=hf_ 0 f0 rfl;have h1:=hf_ 1 f1 rfl;have h2:=hf_ 2 f2 rfl;have h3:=hf_ 3 f3 rfl;match cs,hl with
   |[c0,c1,c2,c3],_=>
    have hx:xs.length=4:=hlen;rw [List.getElem?_eq_getElem (by omega)] at h0 h1 h2 h3;obtain ⟨t0,o0,t1,o1,t2,o2,t3,o3⟩:=hf;simp only [t0,o0,t1,o1,t2,o2,t3,o3,ci,cs_,List.drop_succ_cons,List.drop_zero,List.take_succ_cons,List.take_zero] at h0 h1 h2 h3;obtain ⟨n0,e0,_⟩:=DataW.trod_int hi h0;obtain ⟨n1,e1,_⟩:=DataW.trod_int hi h1;obtain ⟨A2,YL,ad2,e2,l2,g2⟩:=fD _ _ h2;obtain ⟨A3,aEF,ajB,e3,l3,g3⟩:=fD _ _ h3;injection e0 with e0
    injection e1 with e1
    injection e2 with e2
    injection e3 with e3
    subst e0 e1 e2 e3;exact ⟨⟨n0,n1,ad2,ajB⟩,auH w ⟨n0,n1,ad2,ajB⟩ l2 g2 l3 g3⟩
end
theorem TP {H:Type} {enc:TypeId×Value→H} {w:World} {base:Nat} {spare:Nat→Bool} {held:Bool} {fuel:Nat} {cs:List Value} {x:DataW H×List MemPlace} (h:DataW.trod enc Tryd.prog w base spare held fuel 22 cs=some x):
  ∃ A cap xs,cs= [.slice A xs.length cap]∧xs.length≤cap∧Kd.C k105 w A xs.length xs:=
 (akI Tryd.underlying22 Tryd.underlying105 Tryd.underlying3 ⟨rfl,rfl,rfl,rfl,rfl,rfl,rfl,rfl⟩ auD auJ awB fuel).1 cs x h
end Go.Proofs.YtkmafndljelopaaDoor.Q
