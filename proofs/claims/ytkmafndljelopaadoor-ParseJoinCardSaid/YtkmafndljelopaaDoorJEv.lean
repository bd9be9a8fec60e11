/- 'With enough rounds it tells r': small words for the printed functions. No program in sight. -/
import Derived.RowKit
namespace Go.Proofs.YtkmafndljelopaaDoor.Lx
open Go.RowKit
def EvS {α:Type} (g:Nat→Option α) (r:α):Prop:= ∃ K,∀ k,K≤k→g k=some r
theorem EvS.of {α:Type} {g:Nat→Option α} {r:α} (h: ∀ k,g k=some r):EvS g r:=⟨0,fun k _=>h k⟩
theorem EvS.succ {α:Type} {g:Nat→Option α} {r:α} (h:EvS (fun k=>g (k+1)) r):EvS g r:=by
 obtain ⟨K,h⟩:=h;refine ⟨K+1,fun k hk=>?_⟩;obtain ⟨m,rfl⟩: ∃ m,k=m+1:=⟨k - 1,by omega⟩;exact h m (by omega)
theorem EvS.bind {α β:Type} {g:Nat→Option α} {f:Nat→α→Option β} {a:α} {r:β} (h:EvS g a) (hf:EvS (fun k=>f k a) r):EvS (fun k=>(g k).bind (f k)) r:=by
 obtain ⟨K,h⟩:=h;obtain ⟨K',h'⟩:=hf;refine ⟨K+K',fun k hk=>?_⟩;show (g k).bind (f k)=some r
 rw [h k (by omega),Option.bind_some];exact h' k (by omega)
theorem EvS.bind1 {α β:Type} {g:Option α} {f:Nat→α→Option β} {a:α} {r:β} (h:g=some a) (hf:EvS (fun k=>f k a) r):EvS (fun k=>g.bind (f k)) r:=
 EvS.bind (g:=fun _=>g) (.of fun _=>h) hf
theorem EvS.congr {α:Type} {g g':Nat→Option α} {r:α} (h:EvS g r) (e: ∀ k,g' k=g k):EvS g' r:=by
 obtain ⟨K,h⟩:=h;exact ⟨K,fun k hk=>(e k).trans (h k hk)⟩
theorem EvS.if_pos {α:Type} {c:Prop} [Decidable c] {g g':Nat→Option α} {r:α} (hc:c) (h:EvS g r):EvS (fun k=>if c then g k else g' k) r:=h.congr fun _=>_root_.if_pos hc
theorem EvS.if_neg {α:Type} {c:Prop} [Decidable c] {g g':Nat→Option α} {r:α} (hc: ¬ c) (h:EvS g' r):EvS (fun k=>if c then g k else g' k) r:=h.congr fun _=>_root_.if_neg hc
theorem EvS.OR {α:Type} {g:Nat→Option α} {r:α} (h:EvS g r): ∃ k,g k=some r:=let ⟨K,h⟩:=h;⟨K,h K (Nat.le_refl _)⟩
theorem EvS.some_ {α:Type} (r:α):EvS (fun _=>some r) r:= .of fun _=>rfl
theorem EvS.inj {α:Type} {g:Nat→Option α} {r r':α} (h:EvS g r) (h':EvS g r'):r=r':=by
 obtain ⟨K,h⟩:=h;obtain ⟨K',h'⟩:=h';exact Option.some.inj ((h (K+K') (by omega)).symm.trans (h' (K+K') (by omega)))
theorem w64 {n:Int} (h: -9223372036854775808≤n∧n≤9223372036854775807):wrap64 n=n:=by
 unfold wrap64
 omega
end Go.Proofs.YtkmafndljelopaaDoor.Lx
