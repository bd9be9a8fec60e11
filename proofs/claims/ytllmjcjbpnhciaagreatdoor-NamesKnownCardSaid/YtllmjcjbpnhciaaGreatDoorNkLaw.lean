/- The library's functions that are told by hand are as they are told; so the machine is sound here, and NamesKnown returns true. Conditions: each theorem bears its own. -/
import Derived.Test.YtllmjcjbpnhciaaGreatDoorAmD
import Derived.Test.YtllmjcjbpnhciaaGreatDoorNkLib
import Derived.Test.YtllmjcjbpnhciaaGreatDoorNk
import Derived.Below
import Derived.WalkSmall
import Derived.Test.YtllmjcjbpnhciaaGreatDoorShelf
set_option linter.all false
set_option linter.unnecessarySimpa false
set_option linter.unusedSectionVars false
set_option linter.unusedSimpArgs false
set_option linter.unusedVariables false
namespace Go.Proofs.YtllmjcjbpnhciaaGreatDoor.Nk
open Go.Am

/-- what the program's tables hold -/
structure GL (w : World) : Prop where
  lt : 2 < w.heap.size
  err : w.cell? ⟨0, 0, none⟩ = some (.iface 169 (.agg #[.pointer (some ⟨5, 82, none⟩)]))
  ascii : Lib.TabIs Tryz.prog w "strings.asciiSpace" .u8 Lib.asciiSpaceTab

abbrev base (w0 : World) : Base where
  ok w := w0.heap.size ≤ w.heap.size ∧ ∀ b, b < w0.heap.size → w.heap[b]? = w0.heap[b]?
  top := w0.heap.size
  keep w w' hs h k := ⟨Nat.le_trans k.1 hs, fun b hb => (h b hb).trans (k.2 b hb)⟩
theorem gl_ascii : Tryz.prog.globalNamed "strings.asciiSpace" = some 2 := by kernel_rfl
theorem gl_of {w0 w : World} (h : GL w0) (k : (base w0).ok w) : GL w := by
  have hb : Go.RowKit.Below w0.heap.size w0 { w0 with heap := w.heap } := ⟨rfl, rfl, rfl, k.1, k.2⟩
  refine ⟨Nat.lt_of_lt_of_le h.lt k.1, ?_, ?_⟩
  · rw [← h.err]
    have : w.heap[0]? = w0.heap[0]? := k.2 0 (by have := h.lt; omega)
    simp only [World.cell?, this]
  · have := Go.var?_below hb gl_ascii (show 2 < w0.heap.size by have := h.lt; omega) h.ascii
    unfold Lib.TabIs
    rw [← this]
    rfl

variable [Env]
section
variable [Base]

theorem clone_ok {f : FuncId} (hc : ∀ (a : Option Addr) (c : Nat) (w : World), Calls Tryz.prog f #[.slice a 0 c] w fun e w' => ∃ a', e = .returned (.slice a' 0 0) ∧ Go.RowKit.Below w.heap.size w w') : PrimOK Tryz.prog f pClone := by
  intro args os ub r h B w g vs hB R hs hW hv
  have done : ∀ (a : Option Addr) (c : Nat), Calls Tryz.prog f #[.slice a 0 c] w (Am.Ends B w g (Am.Res.ret (.fresh 0 []) os)) := fun a c => (hc a c w).mono fun e w' he => by
    obtain ⟨a', rfl, hb⟩ := he
    exact ends_grew R (grew_of_below hb) (show FR w' g 0 0 [] (.slice a' 0 0) from .inl ⟨rfl, a', rfl⟩)
  unfold pClone at h
  split at h
  · cases h
    obtain ⟨c, rfl, hx⟩ := one_arg hv
    cases hx with
    | p hp => cases hp with
      | vnil => exact done _ _
      | vals us hn => subst hn; exact done _ _
  · cases h
    obtain ⟨c, rfl, hx⟩ := one_arg hv
    cases hx with
    | nilf => exact done _ _
  · cases h
    obtain ⟨c, rfl, hx⟩ := one_arg hv
    cases hx with
    | row => exact done _ _
  · cases h

theorem clip_ok : PrimOK Tryz.prog 125 pClip := by
  intro args os ub r h B w g vs hB R hs hW hv
  unfold pClip at h
  split at h
  · rename_i sz xs
    cases h
    obtain ⟨c, rfl, hx⟩ := one_arg hv
    cases hx with
    | p hp => cases hp with
      | vnil =>
        rename_i a cap
        exact (T.clip125 a 0 cap (Nat.zero_le _) w).mono fun e w' he => by
          obtain ⟨rfl, rfl⟩ := he
          exact ends_same R (AVR.p .vnil)
      | vals us hn hcap hsz hI hc h1 hv' =>
        exact (T.clip125 _ _ _ hcap w).mono fun e w' he => by
          obtain ⟨rfl, rfl⟩ := he
          exact ends_same R (AVR.p (.vals us hn (Nat.le_refl _) hsz hI hc h1 hv'))
  · cases h

theorem compare_ok : PrimOK Tryz.prog 43 pCompare := by
  intro args os ub r h B w g vs hB R hs hW hv
  unfold pCompare at h
  split at h
  · cases h
    obtain ⟨c, d, rfl, hx, hy⟩ := two_args hv
    cases hx with | p hp => cases hp with | «at» _ =>
    cases hy with | p hq => cases hq with | «at» _ =>
    exact (Tryz.strings_Compare _ _ w).mono fun e w' he => by
      obtain ⟨rfl, rfl⟩ := he
      exact ends_same R (AVR.p (.at rfl))
  · cases h

theorem is_ok : PrimOK Tryz.prog 60 pIs := by
  intro args os ub r h B w g vs hB R hs hW hv
  unfold pIs at h
  split at h
  · rename_i a n
    cases h
    obtain ⟨c, d, rfl, hx, hy⟩ := two_args hv
    cases hx with | ifc hx => cases hx with | agg hsz h1 hvs =>
    rename_i us
    cases hy with | ifc hy => cases hy with | p hq => cases hq with | «at» _ =>
    have hus : us = #[.int .i64 a, .int .i64 n] := by
      obtain ⟨l⟩ := us
      match l, hsz with
      | [x, y], _ =>
        have e1 := hvs 0 _ x rfl rfl
        have e2 := hvs 1 _ y rfl rfl
        cases e1 with | p q => cases q with | «at» _ =>
        cases e2 with | p q => cases q with | «at» _ => rfl
    subst hus
    exact (T.is_fault a n w).mono fun e w' he => by
      obtain ⟨rfl, hb⟩ := he
      exact ends_grew R (grew_of_below hb) (AVR.p (.at rfl))
  · cases h

theorem as_ok (hgl : ∀ w, Base.ok w → GL w) : PrimOK Tryz.prog 61 pAs := by
  intro args os ub r h B w g vs hB R hs hW hv
  unfold pAs at h
  split at h
  · rename_i a n k
    split at h
    · rename_i x0 x1 hk
      cases h
      obtain ⟨c, d, rfl, hx, hy⟩ := two_args hv
      cases hx with | ifc hx => cases hx with | agg hsz h1 hvs =>
      rename_i us
      cases hy with | ifc hy => cases hy with | ptr hex hbk =>
      rename_i b
      have hus : us = #[.int .i64 a, .int .i64 n] := by
        obtain ⟨l⟩ := us
        match l, hsz with
        | [x, y], _ =>
          have e1 := hvs 0 _ x rfl rfl
          have e2 := hvs 1 _ y rfl rfl
          cases e1 with | p q => cases q with | «at» _ =>
          cases e2 with | p q => cases q with | «at» _ => rfl
      subst hus
      obtain ⟨b0, vs0, el, q1, q2, q3, q4, q5⟩ := R.obj k _ hk
      rw [hbk] at q1; cases q1
      have hvs0 : ∃ v0 v1, vs0 = #[v0, v1] := by
        obtain ⟨l⟩ := vs0
        match l, q3 with
        | [x, y], _ => exact ⟨x, y, rfl⟩
      obtain ⟨v0, v1, rfl⟩ := hvs0
      exact (T.as_fault b a n v0 v1 el w (hgl w R.base.1).err q2).mono fun e w' he => by
        obtain ⟨rfl, rfl⟩ := he
        refine ends_set R ((((Grew.alloc _ _).trans (Grew.alloc _ _)).trans (Grew.alloc _ _)).trans (Grew.alloc _ _)) hk hbk q2 rfl (fun j c v hc hv => ?_) rfl rfl
        match j, hc, hv with
        | 0, hc, hv => simp at hc hv; subst hc; subst hv; exact ⟨_, rfl, rfl, rfl⟩
        | 1, hc, hv => simp at hc hv; subst hc; subst hv; exact ⟨_, rfl, rfl, rfl⟩
        | j + 2, hc, hv => simp at hc
    · cases h
  · cases h

theorem within_ok {k : Nat} {x : Int} (hE : Env.val 0 = .int .i64 x) (hk : x % 9 = (k : Int)) : PrimOK Tryz.prog 13 (pWithin k) := by
  intro args os ub r h B w g vs hB R hs hW hv
  unfold pWithin at h
  split at h
  · cases h
    obtain ⟨c, d, rfl, hx, hy⟩ := two_args hv
    cases hx with | p hp => cases hp with | sym _ =>
    cases hy with | p hq => cases hq with | «at» _ =>
    rw [hE]
    exact (T.within13 x w).mono fun e w' he => by
      obtain ⟨rfl, rfl⟩ := he
      rw [hk]
      exact ends_same R (AVR.p (.at rfl))
  · cases h

theorem fields_ok (hgl : ∀ w, Base.ok w → GL w) : PrimOK Tryz.prog 104 pFields := by
  intro args os ub r h B w g vs hB R hs hW hv
  unfold pFields at h
  split at h
  · rename_i b
    split at h
    · rename_i hc
      cases h
      simp only [Bool.and_eq_true, List.all_eq_true] at hc
      obtain ⟨c, rfl, hx⟩ := one_arg hv
      cases hx with | p hp => cases hp with | «at» _ =>
      have hlt : b.size < 4294967281 := by simpa using hc.1
      refine (Tryz.strings_Fields_laid b w hlt (fun j c hj => ?_) (hgl w R.base.1).ascii).mono fun e w' he => ?_
      · have := hc.2 c (List.mem_of_getElem? hj)
        simpa using this
      · obtain ⟨rfl, rfl⟩ := he
        have e : (Lib.fields b.data.toList).length = ((Lib.fields b.data.toList).map fun l => [PV.at (.string ⟨l.toArray⟩)]).length := by simp
        rw [e]
        refine ends_row R ⟨fun x hx => ?_, fun i x j y hx hy => ?_⟩ (by simp)
        · obtain ⟨l, _, rfl⟩ := List.mem_map.1 hx; rfl
        · rw [List.getElem?_map] at hx
          cases hl : (Lib.fields b.data.toList)[i]? with
          | none => rw [hl] at hx; cases hx
          | some l =>
            rw [hl] at hx
            simp only [Option.map_some, Option.some.injEq] at hx
            subst hx
            match j, hy with
            | 0, hy =>
              simp at hy; subst hy
              refine ⟨.string ⟨l.toArray⟩, ?_, rfl, .at rfl⟩
              simp [hl]
            | j + 1, hy => simp at hy
    · cases h
  · cases h
end
end Go.Proofs.YtllmjcjbpnhciaaGreatDoor.Nk
namespace Go.Proofs.YtllmjcjbpnhciaaGreatDoor.Nk
open Go.Am

theorem noName (f : FuncId) (fn : Func) (h : Tryz.prog.funcs[f]? = some fn) : fn.name ≠ "runtime.NumGoroutine" := by
  have := List.all_eq_true.1 names fn (Array.mem_toList_iff.2 (Array.mem_of_getElem? h))
  simpa using this
theorem noPlan (f : FuncId) (fn : Func) (c : Code) (h : Tryz.prog.funcs[f]? = some fn) (hb : fn.body = some c) : plansOK plan f c = true := by
  have hl : (Tryz.prog.funcs.toList.zipIdx)[f]? = some (fn, f) := by
    rw [List.getElem?_zipIdx, Array.getElem?_toList, h]; simp
  have := List.all_eq_true.1 plans (fn, f) (List.mem_of_getElem? hl)
  simp only [hb] at this
  exact this

theorem mach_ok [Env] (w0 : World) (hg : GL w0) {k : Nat} {x : Int} (hE : Env.val 0 = .int .i64 x) (hk : x % 9 = (k : Int)) : @CallOK _ (base w0) Tryz.prog (mach k) := by
  letI := base w0
  have hgl : ∀ w, Base.ok w → GL w := fun w h => gl_of hg h
  refine evF_ok noName (fun call hC f fn c hf hb ub => drOf_ok (by kernel_rfl) hC (noPlan f fn c hf hb)) (fun f g hp => ?_) 100000
  unfold prim at hp
  split at hp
  · rename_i hf
    cases hp
    simp only [inN, Bool.or_eq_true, Bool.or_false] at hf
    rcases hf with h | h | h | h
    · rw [← Nat.eq_of_beq_eq_true h]; exact clone_ok T.clone40
    · rw [← Nat.eq_of_beq_eq_true h]; exact clone_ok T.clone47
    · rw [← Nat.eq_of_beq_eq_true h]; exact clone_ok T.clone48
    · rw [← Nat.eq_of_beq_eq_true h]; exact clone_ok T.clone112
  split at hp
  · rename_i _ h; cases hp; rw [Nat.eq_of_beq_eq_true h]; exact clip_ok
  split at hp
  · rename_i _ _ h; cases hp; rw [Nat.eq_of_beq_eq_true h]; exact fields_ok hgl
  split at hp
  · rename_i _ _ _ h; cases hp; rw [Nat.eq_of_beq_eq_true h]; exact compare_ok
  split at hp
  · rename_i _ _ _ _ h; cases hp; rw [Nat.eq_of_beq_eq_true h]; exact is_ok
  split at hp
  · rename_i _ _ _ _ _ h; cases hp; rw [Nat.eq_of_beq_eq_true h]; exact as_ok hgl
  split at hp
  · rename_i _ _ _ _ _ _ h; cases hp; rw [Nat.eq_of_beq_eq_true h]; exact within_ok hE hk
  · cases hp

theorem okR_ret {r : Option Res} (h : okR r = true) : ∃ os, r = some (.ret (.p (.at (.bool true))) os) := by
  unfold okR at h
  split at h
  · exact ⟨_, rfl⟩
  · cases h

/-- the law's function returns true, whatever number it is asked for -/
theorem walk (x : Int) (w : World) (hg : GL w) : Calls Tryz.prog 6 #[.int .i64 x] w fun e w' => e = .returned (.bool true) ∧ Go.RowKit.Below w.heap.size w w' := by
  letI : Env := ⟨fun _ => .int .i64 x⟩
  letI : Base := base w
  have hlt : (x % 9).toNat < 9 := by omega
  have hk : x % 9 = ((x % 9).toNat : Int) := by omega
  have hr := List.all_eq_true.1 runs (x % 9).toNat (List.mem_range.2 hlt)
  obtain ⟨os, hos⟩ := okR_ret hr
  refine end_true (mach_ok w hg rfl hk) hos w ⟨⟨Nat.le_refl _, fun _ _ => rfl⟩, Nat.le_refl _, Nat.le_refl _⟩ ⟨rfl, fun j v u h1 h2 => ?_⟩
  match j, h1, h2 with
  | 0, h1, h2 =>
    simp at h1 h2
    subst h1; subst h2
    exact ⟨.inr ⟨0, rfl, rfl⟩, rfl⟩
  | j + 1, h1, h2 => simp at h1
end Go.Proofs.YtllmjcjbpnhciaaGreatDoor.Nk
