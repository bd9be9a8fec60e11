/- Operations that write, or make memory, are as the machine says. Conditions: each theorem bears its own. -/
import Derived.Laws.RangeString
import Derived.Laws.RangeAny
import Derived.Lib.OthersKept
import Derived.Carry
import Derived.Great.BuildSlice
import Derived.Test.YtllmjcjbpnhciaaGreatDoorAmA
set_option linter.all false
set_option linter.unnecessarySimpa false
set_option linter.unusedSectionVars false
set_option linter.unusedSimpArgs false
set_option linter.unusedVariables false
namespace Go.Am
variable [Env]

def Gh.up (g : Gh) (x : Loc) (b : Option Nat) : Gh := { g with bk := fun y => if y = x then b else g.bk y }
theorem Gh.up_self (g : Gh) (x : Loc) (b : Option Nat) : (g.up x b).bk x = b := by simp [Gh.up]
theorem Gh.up_ne (g : Gh) {x y : Loc} (b : Option Nat) (h : y ≠ x) : (g.up x b).bk y = g.bk y := by simp [Gh.up, h]

section
variable [Base]
variable {P : Program} {H : Hints} {B : Nat} {w w' : World} {g g' : Gh} {os os' : OS} {s : St} {a : Act}

theorem list_set_get {α : Type} {l : List α} {t d : Nat} {v x : α} (h : (l.set d v)[t]? = some x) : (t = d ∧ x = v ∧ d < l.length) ∨ (t ≠ d ∧ l[t]? = some x) := by
  by_cases e : d = t
  · subst e
    by_cases hl : d < l.length
    · rw [List.getElem?_set_self hl] at h; cases h; exact .inl ⟨rfl, rfl, hl⟩
    · rw [List.getElem?_eq_none (by simp; omega)] at h; cases h
  · rw [List.getElem?_set_ne e] at h; exact .inr ⟨Ne.symm e, h⟩

theorem getD_put {a : Act} {d t : Nat} {c : Value} : (a.put (some d) c).tmps.getD t undef = if t = d ∧ d < a.tmps.size then c else a.tmps.getD t undef := by
  simp only [Act.put, Array.getD_eq_getD_getElem?, Array.getElem?_setIfInBounds]
  by_cases e : d = t
  · subst e
    by_cases h : d < a.tmps.size <;> simp [h]
  · rw [if_neg e, if_neg (fun h => e h.1.symm)]

theorem Rel.put (R : Rel B w g s a) {d : Option Tmp} {v : AV} {c : Value} (h : ∀ t, d = some t → SVR w g s.os t v c) : Rel B w g (put s d v) (a.put d c) := by
  cases d with
  | none => exact R
  | some d =>
    refine ⟨R.mem, fun t u hu => ?_, fun t u hu => ?_, R.dlen, R.dfr⟩
    · show t < (a.tmps.setIfInBounds d c).size
      rw [Array.size_setIfInBounds]
      rcases slots_set_get hu with ⟨rfl, _, u', hu'⟩ | ⟨_, hu⟩
      · exact R.size _ _ hu'
      · exact R.size _ _ hu
    rw [getD_put]
    rcases slots_set_get hu with ⟨rfl, rfl, u', hl⟩ | ⟨hne, hu⟩
    · rw [if_pos ⟨rfl, R.size _ _ hl⟩]; exact h _ rfl
    · rw [if_neg (fun h => hne h.1)]; exact R.slots t u hu

/-- what a slot owns stays its own -/
def SlotsOK (w : World) (g : Gh) (w' : World) (g' : Gh) : Prop :=
  ∀ t b, g.bk (.slot t) = some b → g'.bk (.slot t) = some b ∧ w'.heap[b]? = w.heap[b]? ∧ ∀ o, g'.I b o → g.I b o

theorem SVR.ev {t : Nat} (T : Tr some w g os w' g' os') (hs : ∀ b, g.bk (.slot t) = some b → g'.bk (.slot t) = some b ∧ w'.heap[b]? = w.heap[b]? ∧ ∀ o, g'.I b o → g.I b o)
    {v : AV} {c : Value} (h : SVR w g os t v c) : SVR w' g' os' t v c := by
  cases v with
  | fresh sz xs =>
    rcases h with h | ⟨b, vs, el, fr, cap, h1, h2, h3, h4, h5, h6, h7, h8⟩
    · exact .inl h
    · obtain ⟨e1, e2, e3⟩ := hs b h1
      exact .inr ⟨b, vs, el, fr, cap, e1, h2, e2.trans h3, h4, h5, h6, h7.mono T.imm, fun o ho => h8 o (e3 o ho)⟩
  | uniq sz xs =>
    rcases h with h | ⟨b, vs, el, fr, cap, h1, h2, h3, h4, h5, h6, h7, h8⟩
    · exact .inl h
    · obtain ⟨e1, e2, e3⟩ := hs b h1
      exact .inr ⟨b, vs, el, fr, cap, e1, h2, e2.trans h3, h4, h5, h6, h7.mono T.imm, fun o ho => h8 o (e3 o ho)⟩
  | _ => exact AVR.ev T h

theorem AVRs.ev (T : Tr some w g os w' g' os') {cs : List AV} {vs : Array Value} (h : AVRs w g os cs vs) : AVRs w' g' os' cs vs :=
  ⟨h.1, fun j c v hc hv => (h.2 j c v hc hv).ev T⟩

/-- the state, seen from what has become of the things -/
theorem Rel.ev (R : Rel B w g s a) (R' : RelO B w' g' os') (T : Tr some w g s.os w' g' os') (hs : SlotsOK w g w' g') : Rel B w' g' { s with os := os' } a where
  mem := R'
  size := R.size
  slots t v h := (R.slots t v h).ev T (hs t)
  dlen := R.dlen
  dfr j x d h1 h2 := by
    obtain ⟨f, cap, vs, e1, e2, e3, e4⟩ := R.dfr j x d h1 h2
    exact ⟨f, cap, vs, e1, e2, e3.ev T, e4.ev T⟩

theorem RelO.noObj (R : RelO B w g os) {k : Nat} (h : getObj os k = none) : g.bk (.obj k) = none := by
  cases hb : g.bk (.obj k) with
  | none => rfl
  | some b => obtain ⟨o, ho⟩ := R.dom k b hb; rw [h] at ho; cases ho

theorem getObj_cons (k : Nat) (o : Obj) (os : OS) (j : Nat) : getObj ((k, o) :: os) j = if k = j then some o else getObj os j := by
  simp only [getObj]
  by_cases h : k = j
  · simp [h]
  · simp [h]

/-- a new thing -/
theorem tr_add (G : Grew w w') (R : RelO B w g os) {k : Nat} (hk : getObj os k = none) (o : Obj) (hbk : ∀ j, j ≠ k → g'.bk (.obj j) = g.bk (.obj j)) (hI : ∀ b o, g.I b o → g'.I b o) :
    Tr some w g os w' g' ((k, o) :: os) where
  imm b o hi := ⟨hI b o hi, cell_heap (G.old b (R.ilt b o hi)) o⟩
  obj j j' x hx hj := by
    cases hj
    have hne : j ≠ k := by rintro rfl; rw [hk] at hx; cases hx
    refine ⟨x, by rw [getObj_cons, if_neg (Ne.symm hne)]; exact hx, ?_⟩
    rw [hbk j hne]
    exact OEv.refl (fun bb hb vs el fr hv => ⟨vs, by rw [G.old bb (R.lt _ bb hb).2]; exact hv, rfl⟩) x

theorem RelO.add (G : Grew w w') (R : RelO B w g os) {k : Nat} (hk : getObj os k = none) {o : Obj} (hbk : ∀ j, j ≠ k → g'.bk (.obj j) = g.bk (.obj j)) (hI : ∀ b o, g.I b o → g'.I b o)
    (hnew : ∀ b o, g'.I b o → g.I b o ∨ (b < w'.heap.size ∧ ∀ k, g.bk (.obj k) ≠ some b)) (hinj : ∀ x y b, g'.bk x = some b → g'.bk y = some b → x = y) (hlt : ∀ x b, g'.bk x = some b → B ≤ b ∧ b < w'.heap.size)
    (ho : OR w' g' ((k, o) :: os) k o) (hW : ∀ v c, g'.W v c → g.W v c := by intro _ _ h; exact h) : RelO B w' g' ((k, o) :: os) where
  obj j x hx := by
    rw [getObj_cons] at hx
    split at hx
    · rename_i e; cases hx; rw [← e]; exact ho
    · rename_i hne
      refine (R.obj j x hx).ev (tr_add G R hk o hbk hI) (hbk j (Ne.symm hne)) fun b hb => ⟨G.old b (R.lt _ b hb).2, fun o' ho' => ?_⟩
      rcases hnew b o' ho' with h1 | ⟨_, h2⟩
      · exact h1
      · exact absurd hb (h2 j)
  dom j b hb := by
    rw [getObj_cons]
    split
    · exact ⟨_, rfl⟩
    · rename_i hne; exact R.dom j b (by rw [← hbk j (Ne.symm hne)]; exact hb)
  inj := hinj
  lt := hlt
  ilt b o ho := by
    rcases hnew b o ho with h1 | ⟨h1, _⟩
    · exact Nat.lt_of_lt_of_le (R.ilt b o h1) G.size
    · exact h1
  watch v c hv := (R.watch v c (hW v c hv)).ev (tr_add G R hk o hbk hI)
  base := R.base.grew G

/-- a row that waits to be filled -/
theorem RelO.addRow (R : RelO B w g os) {k : Nat} (hk : getObj os k = none) : RelO B w g ((k, .row 0 [] 0 false) :: os) :=
  RelO.add (Grew.refl w) R hk (fun _ _ => rfl) (fun _ _ h => h) (fun _ _ h => .inl h) R.inj R.lt ⟨Nat.le_refl _, .inl ⟨R.noObj hk, rfl⟩⟩

/-! ### units -/
theorem maxU_ge : ∀ {os : OS} {k : Nat} {o : Obj}, getObj os k = some o → k / 64 ≤ maxU os
  | [], k, o, h => by cases h
  | (j, x) :: m, k, o, h => by
    rw [getObj_cons] at h
    simp only [maxU]
    split at h
    · rename_i e; subst e; exact Nat.le_max_left _ _
    · exact Nat.le_trans (maxU_ge h) (Nat.le_max_right _ _)
theorem any_get : ∀ {os : OS} {k : Nat} {o : Obj}, getObj os k = some o → os.any (fun e => e.1 / 64 == k / 64) = true
  | [], k, o, h => by cases h
  | (j, x) :: m, k, o, h => by
    rw [getObj_cons] at h
    simp only [List.any_cons, Bool.or_eq_true]
    split at h
    · rename_i e; subst e; exact .inl (by simp)
    · exact .inr (any_get h)
theorem freeU_free (os : OS) (u j : Nat) (hj : j < 64) : getObj os (freeU os u * 64 + j) = none := by
  cases h : getObj os (freeU os u * 64 + j) with
  | none => rfl
  | some o =>
    have e : (freeU os u * 64 + j) / 64 = freeU os u := by omega
    unfold freeU at *
    split at e
    · rename_i hc
      rw [if_pos hc] at h
      have := maxU_ge h
      omega
    · rename_i hc
      rw [if_neg hc] at h
      have := any_get h
      rw [e] at this
      exact absurd this hc

/-- cells, and the rows that they call for -/
theorem rowCells_rel {f k d : Nat} : ∀ (cs : List AV) (vs : List Value) (j : Nat) (os : OS) (R : RelO B w g os) (hfree : ∀ i, j < i + 1 → i < 63 → getObj os (k + 1 + i) = none) (hl : j + cs.length ≤ 63)
    (hcs : cs.length = vs.length ∧ ∀ (i : Nat) (c : AV) (v : Value), cs[i]? = some c → vs[i]? = some v → AVR w g os (cp c) v ∧ (c = .fresh 0 [] → ∃ a, v = .slice a 0 0)) (ds : List AV) (os' : OS), rowCells H f k d j cs os = (ds, os') →
    RelO B w g os' ∧ Tr some w g os w g os' ∧ ds.length = cs.length ∧ (∀ (i : Nat) (c : AV) (v : Value), ds[i]? = some c → vs[i]? = some v → AVR w g os' c v) ∧
      (∀ x, getObj os' x ≠ none → getObj os x ≠ none ∨ ∃ i, j ≤ i ∧ i < j + cs.length ∧ x = k + 1 + i)
  | [], vs, j, os, R, hfree, hl, hcs, ds, os', h => by
    cases h
    exact ⟨R, Tr.world (fun _ => rfl) (fun _ _ h => ⟨h, rfl⟩) (fun _ _ _ vs el fr h => ⟨vs, h, rfl⟩), rfl, fun i c v h => by simp at h, fun x hx => .inl hx⟩
  | c :: cs, [], j, os, R, hfree, hl, hcs, ds, os', h => by simp at hcs
  | c :: cs, v :: vs, j, os, R, hfree, hl, hcs, ds, os', h => by
    simp only [rowCells] at h
    generalize hr : rowCells H f k d (j + 1) cs os = r at h
    obtain ⟨es, os1⟩ := r
    simp only [List.length_cons] at hl
    obtain ⟨R1, T1, l1, v1, k1⟩ := rowCells_rel cs vs (j + 1) os R (fun i hi hi2 => hfree i (by omega) hi2) (by omega) ⟨by simpa using hcs.1, fun i c v hc hv => hcs.2 (i + 1) c v (by simpa using hc) (by simpa using hv)⟩ es os1 hr
    have h0 := hcs.2 0 c v rfl rfl
    simp only at h
    split at h
    · cases h
      have hfresh : getObj os1 (k + 1 + j) = none := by
        cases hg : getObj os1 (k + 1 + j) with
        | none => rfl
        | some o =>
          rcases k1 (k + 1 + j) (by rw [hg]; simp) with h2 | ⟨i, hi, _, he⟩
          · exact absurd (hfree j (by omega) (by omega)) h2
          · omega
      have T2 : Tr some w g os1 w g ((k + 1 + j, .row 0 [] 0 false) :: os1) := tr_add (Grew.refl w) R1 hfresh _ (fun _ _ => rfl) (fun _ _ h => h)
      have T : Tr some w g os w g ((k + 1 + j, .row 0 [] 0 false) :: os1) := by
        refine ⟨fun b o hi => ⟨hi, rfl⟩, fun x x' o hx hx' => ?_⟩
        cases hx'
        have hne : x ≠ k + 1 + j := by rintro rfl; rw [hfree j (by omega) (by omega)] at hx; cases hx
        obtain ⟨o1, ho1, he⟩ := T1.obj x x o hx rfl
        exact ⟨o1, by rw [getObj_cons, if_neg (Ne.symm hne)]; exact ho1, he⟩
      refine ⟨R1.addRow hfresh, T, by simp [l1], fun i c' v' hc hv => ?_, fun x hx => ?_⟩
      · cases i with
        | zero =>
          simp at hc hv
          subst hv
          subst hc
          split
          · obtain ⟨a, rfl⟩ := h0.2 rfl
            exact .row (by rw [getObj_cons, if_pos rfl]) (Nat.le_refl _) (Nat.le_refl _) (fun _ _ => .inl ⟨R1.noObj hfresh, rfl⟩) (.inl rfl)
          · exact h0.1.ev T
        | succ i => exact (v1 i c' v' (by simpa using hc) (by simpa using hv)).ev T2
      · rw [getObj_cons] at hx
        split at hx
        · rename_i e; exact .inr ⟨j, Nat.le_refl _, by simp, e.symm⟩
        · rcases k1 x hx with h2 | ⟨i, h3, h4, h5⟩
          · exact .inl h2
          · exact .inr ⟨i, by omega, by simp; omega, h5⟩
    · cases h
      refine ⟨R1, T1, by simp [l1], fun i c' v' hc hv => ?_, fun x hx => ?_⟩
      · cases i with
        | zero =>
          simp at hc hv
          subst hv
          subst hc
          exact h0.1.ev T1
        | succ i => exact v1 i c' v' (by simpa using hc) (by simpa using hv)
      · rcases k1 x hx with h2 | ⟨i, h3, h4, h5⟩
        · exact .inl h2
        · exact .inr ⟨i, by omega, by simp; omega, h5⟩
end
end Go.Am
namespace Go.Am
variable [Env]
section
variable [Base]
variable {P : Program} {H : Hints} {B : Nat} {w w' : World} {g g' : Gh} {os os' : OS} {s : St} {a : Act}

theorem rowCells_len {f k d : Nat} : ∀ (cs : List AV) (j : Nat) (os : OS), (rowCells H f k d j cs os).1.length = cs.length
  | [], j, os => rfl
  | c :: cs, j, os => by
    simp only [rowCells]
    have := rowCells_len (f := f) (k := k) (d := d) cs (j + 1) os
    split <;> simp [this]
theorem rowCells_stor {f k d : Nat} : ∀ (cs : List AV) (j : Nat) (os : OS), (rowCells H f k d j cs os).1.all stor = true → (cps cs).all stor = true
  | [], j, os, _ => rfl
  | c :: cs, j, os, h => by
    simp only [rowCells] at h
    simp only [cps, List.all_cons, Bool.and_eq_true]
    split at h
    · simp only [List.all_cons, Bool.and_eq_true] at h
      refine ⟨?_, rowCells_stor cs (j + 1) os h.2⟩
      have h1 := h.1
      split at h1
      · rfl
      · exact h1
    · simp only [List.all_cons, Bool.and_eq_true] at h
      exact ⟨h.1, rowCells_stor cs (j + 1) os h.2⟩

theorem Grew.fr (G : Grew w w') (hI : ∀ b o, g.I b o → g'.I b o) (hi : ∀ b o, g.I b o → b < w.heap.size) (hown : ∀ x b, g'.bk x = some b → b < w.heap.size → ∃ y, g.bk y = some b)
    (hnew : ∀ b o, g'.I b o → b < w.heap.size → g.I b o ∨ ∃ y, g.bk y = some b) (hW : ∀ v c, g.W v c → g'.W v c := by intro _ _ h; exact h) : Fr w g w' g' where
  size := G.size
  tape := G.tape
  os := G.os
  output := G.output
  imm b o h := ⟨hI b o h, cell_heap (G.old b (hi b o h)) o⟩
  rest b hb _ := G.old b hb
  own := hown
  inew := hnew
  watch := hW

theorem heap_alloc (w : World) (o : Go.Obj) : (w.alloc o).heap[w.heap.size]? = some o := by show (w.heap.push o)[w.heap.size]? = some o; simp

/-- a new variable -/
theorem newCells_rel (hB : B ≤ w.heap.size) (R : Rel B w g s a) {cx : Cx} {d : Tmp} {cs : List AV} {s' : St} {vs : Array Value} {ty : TypeId} (h : newCells H cx s d cs = some s')
    (hcs : cs.length = vs.size ∧ ∀ (i : Nat) (c : AV) (v : Value), cs[i]? = some c → vs[i]? = some v → AVR w g s.os (cp c) v ∧ (c = .fresh 0 [] → ∃ a, v = .slice a 0 0)) :
    ∃ g', Rel B (w.alloc (.cells vs ty)) g' s' (a.put (some d) (.pointer (some ⟨w.heap.size, 0, none⟩))) ∧ Fr w g (w.alloc (.cells vs ty)) g' := by
  unfold newCells at h
  simp only at h
  generalize hu : newUnit cx s.os d = u at h
  generalize hr : rowCells H cx.f (u * 64) d 0 cs s.os = r at h
  obtain ⟨ds, os1⟩ := r
  simp only at h
  split at h
  · rename_i hcond
    obtain ⟨hst, hlen⟩ := hcond
    cases h
    have hl : ds.length = cs.length := by have := rowCells_len (H := H) (f := cx.f) (k := u * 64) (d := d) cs 0 s.os; rw [hr] at this; exact this
    have hfree : ∀ j, j < 64 → getObj s.os (u * 64 + j) = none := fun j hj => by rw [← hu]; exact freeU_free _ _ j hj
    obtain ⟨R1, T1, _, v1, k1⟩ := rowCells_rel cs vs.toList 0 s.os R.mem (fun i _ hi => by rw [Nat.add_assoc]; exact hfree (1 + i) (by omega)) (by omega)
      ⟨by simpa using hcs.1, fun i c v hc hv => hcs.2 i c v hc (by simpa using hv)⟩ ds os1 hr
    have hk : getObj os1 (u * 64) = none := by
      cases hg : getObj os1 (u * 64) with
      | none => rfl
      | some o =>
        rcases k1 (u * 64) (by rw [hg]; simp) with h2 | ⟨i, _, _, he⟩
        · exact absurd (hfree 0 (by omega)) h2
        · omega
    have G := Grew.alloc w (.cells vs ty)
    have hbk : ∀ j, j ≠ u * 64 → (g.up (.obj (u * 64)) (some w.heap.size)).bk (.obj j) = g.bk (.obj j) := fun j hj => Gh.up_ne _ _ (by simpa using hj)
    have hlt0 : ∀ x b, g.bk x = some b → b < w.heap.size := fun x b hb => (R1.lt x b hb).2
    have T2 := tr_add (g' := g.up (.obj (u * 64)) (some w.heap.size)) G R1 hk (.cells ds) hbk (fun _ _ h => h)
    have T : Tr some w g s.os (w.alloc (.cells vs ty)) (g.up (.obj (u * 64)) (some w.heap.size)) ((u * 64, .cells ds) :: os1) := by
      refine ⟨T2.imm, fun x x' o hx hx' => ?_⟩
      cases hx'
      obtain ⟨o1, ho1, he⟩ := T1.obj x x o hx rfl
      obtain ⟨o2, ho2, he2⟩ := T2.obj x x o1 ho1 rfl
      have hne : x ≠ u * 64 := by rintro rfl; rw [hk] at ho1; cases ho1
      refine ⟨o1, by rw [getObj_cons, if_neg (Ne.symm hne)]; exact ho1, ?_⟩
      have hbx := hbk x hne
      cases o <;> cases o1 <;> first | exact he.elim | skip
      · exact hbx
      · obtain ⟨e1, e2, e3, e4, e5, e6, e7⟩ := he
        refine ⟨e1, e2, e3, fun h => by rw [hbx], fun bb hb vs' el fr hv => ⟨vs', by rw [G.old bb (hlt0 _ bb hb)]; exact hv, rfl⟩, e6, .inl hbx⟩
      · exact hbx
      · exact hbx
    refine ⟨g.up (.obj (u * 64)) (some w.heap.size), ?_, ?_⟩
    · have RO : RelO B (w.alloc (.cells vs ty)) (g.up (.obj (u * 64)) (some w.heap.size)) ((u * 64, .cells ds) :: os1) := by
        refine RelO.add G R1 hk hbk (fun _ _ h => h) (fun _ _ h => .inl h) ?_ ?_ ?_
        · intro x y b hx hy
          by_cases ex : x = .obj (u * 64)
          · by_cases ey : y = .obj (u * 64)
            · rw [ex, ey]
            · subst ex
              rw [Gh.up_self] at hx; cases hx
              rw [Gh.up_ne _ _ ey] at hy
              exact absurd (hlt0 y _ hy) (Nat.lt_irrefl _)
          · rw [Gh.up_ne _ _ ex] at hx
            by_cases ey : y = .obj (u * 64)
            · subst ey
              rw [Gh.up_self] at hy; cases hy
              exact absurd (hlt0 x _ hx) (Nat.lt_irrefl _)
            · rw [Gh.up_ne _ _ ey] at hy
              exact R1.inj x y b hx hy
        · intro x b hx
          by_cases ex : x = .obj (u * 64)
          · subst ex; rw [Gh.up_self] at hx; cases hx; exact ⟨hB, by simp⟩
          · rw [Gh.up_ne _ _ ex] at hx
            exact ⟨(R1.lt x b hx).1, by have := hlt0 x b hx; simp; omega⟩
        · refine ⟨w.heap.size, vs, ty, Gh.up_self _ _ _, heap_alloc w _, by rw [hl, hcs.1], fun j c v hc hv => ?_, fun o ho => absurd (R1.ilt _ o ho) (Nat.lt_irrefl _)⟩
          have h1 := v1 j c v hc (by simpa using hv)
          have h2 := List.all_eq_true.1 hst c (List.mem_of_getElem? hc)
          exact ⟨h1.ev T2, stor_one h2 h1⟩
      have R' := Rel.ev R RO T (fun t b hb => ⟨by rw [Gh.up_ne _ _ (by simp)]; exact hb, G.old b (hlt0 _ b hb), fun _ h => h⟩)
      refine Rel.put R' (d := some d) (v := .ptr (u * 64) 0) fun t ht => ?_
      exact SVR.of t (.ptr (.inl ⟨_, by show getObj ((u * 64, Obj.cells ds) :: os1) (u * 64) = _; rw [getObj_cons, if_pos rfl]⟩) (Gh.up_self _ _ _))
    · refine Grew.fr G (fun _ _ h => h) (fun b o h => R.mem.ilt b o h) (fun x b hx hb => ?_) (fun b o h _ => .inl h)
      by_cases ex : x = .obj (u * 64)
      · subst ex; rw [Gh.up_self] at hx; cases hx; omega
      · rw [Gh.up_ne _ _ ex] at hx; exact ⟨x, hx⟩
  · cases h

theorem run_newVar' (t : TypeId) (v : Value) : (newVar t v).run P w = .ok ⟨w.heap.size, 0, none⟩ (w.alloc (.cells v.cells t)) := by
  simp [newVar, newRow]
end
end Go.Am
namespace Go.Am
variable [Env]
section
variable [Base]
variable {P : Program} {H : Hints} {B : Nat} {w w' w0 : World} {g g' g0 : Gh} {os os' : OS} {s : St} {a : Act}

/-- the state, seen from what has become of the things; slots that own nothing need nothing -/
theorem Rel.ev' (R : Rel B w g s a) (R' : RelO B w' g' os') (T : Tr some w g s.os w' g' os')
    (hs : ∀ (t : Nat) (v : AV), s.slots.get t = some v → nf v = false → ∀ b, g.bk (.slot t) = some b → g'.bk (.slot t) = some b ∧ w'.heap[b]? = w.heap[b]? ∧ ∀ o, g'.I b o → g.I b o) :
    Rel B w' g' { s with os := os' } a where
  mem := R'
  size := R.size
  slots t v h := by
    cases hn : nf v with
    | true => exact SVR.of t (AVR.ev T ((R.slots t v h).avr hn))
    | false => exact (R.slots t v h).ev T (hs t v h hn)
  dlen := R.dlen
  dfr j x d h1 h2 := by
    obtain ⟨f, cap, vs, e1, e2, e3, e4⟩ := R.dfr j x d h1 h2
    exact ⟨f, cap, vs, e1, e2, e3.ev T, e4.ev T⟩

/-- what a slot alone owns -/
def Own (B : Nat) (w : World) (g : Gh) (free : Loc → Prop) (N : Nat → Prop) (sz : Nat) (xs : List (List PV)) (sh : Bool) (c : Value) : Prop :=
  (xs = [] ∧ ∃ a, c = .slice a 0 0) ∨
  ∃ b vs el fr cap, c = .slice (some ⟨b, 0, none⟩) xs.length cap ∧ w.heap[b]? = some (.cells vs el fr) ∧ frok fr vs.size sz ∧ vs.size = cap * sz ∧ xs.length ≤ cap ∧ Holds w g.I vs sz xs ∧
    (∀ o, g.I b o → sh = true ∧ o < xs.length * sz) ∧ B ≤ b ∧ b < w.heap.size ∧ (∀ y, g.bk y = some b → free y) ∧ N b

theorem holds_of_pvr {sz n cap b : Nat} {xs : List (List PV)} {vs : Array Value} {el : TypeId} {fr : Nat × Nat} {I : Nat → Nat → Prop} (h : PVR w I (.vals sz xs) (.slice (some ⟨b, 0, none⟩) n cap)) (hh : w.heap[b]? = some (.cells vs el fr)) : Holds w I vs sz xs := by
  cases h with
  | vnil => exact ⟨fun x hx => by simp at hx, fun i x j y hx => by simp at hx⟩
  | vals us hn hcap hsz hI hc h1 hv =>
    refine ⟨hsz, fun i x j y hx hy => ⟨us (i * sz + j), ?_, h1 i x j y hx hy, hv i x j y hx hy⟩⟩
    have := hc i x j y hx hy
    rw [cell_of_heap hh, Nat.zero_add] at this
    exact this

theorem pvr_of_holds {sz cap b : Nat} {xs : List (List PV)} {vs : Array Value} {el : TypeId} {fr : Nat × Nat} {I : Nat → Nat → Prop} (h : Holds w I vs sz xs) (hh : w.heap[b]? = some (.cells vs el fr)) (hcap : xs.length ≤ cap)
    (hI : ∀ o, o < xs.length * sz → I b o) : PVR w I (.vals sz xs) (.slice (some ⟨b, 0, none⟩) xs.length cap) := by
  have hlt : ∀ (i : Nat) (x : List PV) (j : Nat) (y : PV), xs[i]? = some x → x[j]? = some y → i * sz + j < xs.length * sz := by
    intro i x j y hx hy
    have h1 : i < xs.length := (List.getElem?_eq_some_iff.1 hx).1
    have h2 : j < x.length := (List.getElem?_eq_some_iff.1 hy).1
    rw [h.1 x (List.mem_of_getElem? hx)] at h2
    calc i * sz + j < i * sz + sz := by omega
      _ = (i + 1) * sz := by rw [Nat.add_mul, Nat.one_mul]
      _ ≤ xs.length * sz := Nat.mul_le_mul_right _ h1
  have get : ∀ (i : Nat) (x : List PV) (j : Nat) (y : PV), xs[i]? = some x → x[j]? = some y → vs[i * sz + j]? = some (vs.getD (i * sz + j) undef) ∧ (vs.getD (i * sz + j) undef).oneCell' = true ∧ PVR w I y (vs.getD (i * sz + j) undef) := by
    intro i x j y hx hy
    obtain ⟨v, h1, h2, h3⟩ := h.2 i x j y hx hy
    have e : vs.getD (i * sz + j) undef = v := by simp [Array.getD, (Array.getElem?_eq_some_iff.1 h1).1, (Array.getElem?_eq_some_iff.1 h1).2]
    rw [e]; exact ⟨h1, h2, h3⟩
  refine .vals (fun m => vs.getD m undef) rfl hcap h.1 (fun i x j y hx hy => ?_) (fun i x j y hx hy => ?_) (fun i x j y hx hy => (get i x j y hx hy).2.1) (fun i x j y hx hy => (get i x j y hx hy).2.2)
  · rw [Nat.zero_add]; exact hI _ (hlt i x j y hx hy)
  · rw [cell_of_heap hh, Nat.zero_add]; exact (get i x j y hx hy).1

/-- the operand's slot, where it is one -/
def tmpOf : Operand → Option Tmp
  | .tmp t => some t
  | _ => none

theorem ev1_fresh (R : Rel B w g s a) {x : Operand} {sz : Nat} {xs : List (List PV)} (h : ev1 s x = some (.fresh sz xs)) : Own B w g (fun y => ∃ t, tmpOf x = some t ∧ y = .slot t) (fun b => ∃ y, g.bk y = some b) sz xs (!xs.isEmpty) (a.eval x) := by
  have nil : ∀ v : Value, ofValue v = .fresh sz xs → xs = [] ∧ ∃ a, v = .slice a 0 0 := by
    intro v hv
    have := ofValue_rel (v := v) w g s.os
    rw [hv] at this
    cases this with
    | nilf => exact ⟨rfl, _, rfl⟩
  cases x with
  | tmp t =>
    have hr : FR w g t sz xs (a.eval (.tmp t)) := R.slots t _ h
    rcases hr with ⟨rfl, h1⟩ | ⟨b, vs, el, fr, cap, h1, h2, h3, h4, h5, h6, h7, h8⟩
    · exact .inl ⟨rfl, h1⟩
    · refine .inr ⟨b, vs, el, fr, cap, h2, h3, h4, h5, h6, ?_, fun o ho => ⟨?_, h8 o ho⟩, (R.mem.lt _ b h1).1, (R.mem.lt _ b h1).2, fun y hy => ⟨t, rfl, R.mem.inj y _ b hy h1⟩, ⟨_, h1⟩⟩
      · rw [h2] at h7; exact holds_of_pvr h7 h3
      · have := h8 o ho
        cases xs with
        | nil => simp at this
        | cons => rfl
  | const v =>
    have hv : ofValue v = .fresh sz xs := Option.some.inj h
    obtain ⟨h1, h2⟩ := nil v hv
    exact .inl ⟨h1, h2⟩
  | global n => cases h
  | func f => cases h

theorem ev1_uniq (R : Rel B w g s a) {x : Operand} {sz : Nat} {xs : List (List PV)} (h : ev1 s x = some (.uniq sz xs)) : Own B w g (fun y => ∃ t, tmpOf x = some t ∧ y = .slot t) (fun b => ∃ y, g.bk y = some b) sz xs false (a.eval x) := by
  cases x with
  | tmp t =>
    have hr : UR w g t sz xs (a.eval (.tmp t)) := R.slots t _ h
    rcases hr with ⟨rfl, h1⟩ | ⟨b, vs, el, fr, cap, h1, h2, h3, h4, h5, h6, h7, h8⟩
    · exact .inl ⟨rfl, h1⟩
    · exact .inr ⟨b, vs, el, fr, cap, h2, h3, h4, h5, h6, h7, fun o ho => absurd ho (h8 o), (R.mem.lt _ b h1).1, (R.mem.lt _ b h1).2, fun y hy => ⟨t, rfl, R.mem.inj y _ b hy h1⟩, ⟨_, h1⟩⟩
  | const v =>
    have hv : ofValue v = .uniq sz xs := Option.some.inj h
    have := ofValue_rel (v := v) w g s.os
    rw [hv] at this
    cases this
  | global n => cases h
  | func f => cases h

theorem took_rel (R : Rel B w g s a) (x : Operand) (v : AV) : Rel B w g (took s x v) a := by
  have key : ∀ t, Rel B w g { s with slots := s.slots.set t .undef } a := fun t =>
    ⟨R.mem, fun t' u hu => (by
      rcases slots_set_get hu with ⟨rfl, _, u', hu'⟩ | ⟨_, hu⟩
      · exact R.size _ _ hu'
      · exact R.size _ _ hu), fun t' u hu => by
      rcases slots_set_get hu with ⟨_, rfl, _⟩ | ⟨_, hu⟩
      · exact AVR.undef
      · exact R.slots t' u hu, R.dlen, R.dfr⟩
  unfold took
  split
  · exact key _
  · exact key _
  · exact R
theorem took_os (x : Operand) (v : AV) : (took s x v).os = s.os := by
  unfold took; split <;> rfl
theorem took_free {x : Operand} {v : AV} (hv : nf v = false) {t : Tmp} (ht : tmpOf x = some t) : ∀ u, (took s x v).slots.get t = some u → nf u = true := by
  intro u hu
  cases x with
  | tmp t' =>
    cases ht
    have key : (s.slots.set t .undef).get t = some u → nf u = true := fun hu => by
      rcases slots_set_get hu with ⟨_, h, _⟩ | ⟨h, _⟩
      · rw [h]; rfl
      · exact absurd rfl h
    cases v with
    | fresh => exact key hu
    | uniq => exact key hu
    | _ => cases hv
  | _ => cases ht

/-- a row of its own, from what a slot alone owns -/
theorem newRow_rel (R : Rel B w g s a) (F : Fr w0 g0 w g) {cx : Cx} {d : Tmp} {free : Loc → Prop} {N : Nat → Prop} {sz : Nat} {xs : List (List PV)} {sh : Bool} {c : Value} (hc : Own B w g free N sz xs sh c)
    (hfree : ∀ y, free y → ∃ t, y = .slot t ∧ ∀ u, s.slots.get t = some u → nf u = true)
    (hnew : ∀ b, N b → b < w0.heap.size → ∃ y, g0.bk y = some b) : ∃ g', Rel B w g' (newRowS cx s d sz xs sh) (a.put (some d) c) ∧ Fr w0 g0 w g' := by
  unfold newRowS
  simp only
  generalize hu : newUnit cx s.os d = u
  have hk : getObj s.os (u * 64) = none := by
    have h0 := freeU_free s.os (unitOf cx d) 0 (by omega)
    rw [Nat.add_zero] at h0
    rw [← hu]; exact h0
  have hnone := R.mem.noObj hk
  rcases hc with ⟨rfl, a', rfl⟩ | ⟨b, vs, el, fr, cap, rfl, h1, h2, h3, h4, h5, h6, h7, h8, h9, h10⟩
  · refine ⟨g, ?_, F⟩
    have RO : RelO B w g ((u * 64, .row sz [] 0 sh) :: s.os) := RelO.add (Grew.refl w) R.mem hk (fun _ _ => rfl) (fun _ _ h => h) (fun _ _ h => .inl h) R.mem.inj R.mem.lt ⟨Nat.le_refl _, .inl ⟨hnone, rfl⟩⟩
    have T := tr_add (g' := g) (Grew.refl w) R.mem hk (.row sz [] 0 sh) (fun _ _ => rfl) (fun _ _ h => h)
    have R' := Rel.ev' R RO T (fun t v _ _ b hb => ⟨hb, rfl, fun _ h => h⟩)
    refine Rel.put R' (d := some d) (v := .row (u * 64) 0 0) fun t _ => SVR.of t ?_
    exact .row (by show getObj ((u * 64, Obj.row sz [] 0 sh) :: s.os) (u * 64) = _; rw [getObj_cons, if_pos rfl]) (Nat.le_refl _) (Nat.le_refl _) (fun _ _ => .inl ⟨hnone, rfl⟩) (.inl rfl)
  · let g' : Gh := { g with bk := fun y => if y = .obj (u * 64) then some b else if g.bk y = some b then none else g.bk y }
    have e1 : g'.bk (.obj (u * 64)) = some b := by show (if _ then _ else _) = _; rw [if_pos rfl]
    have e2 : ∀ y, y ≠ .obj (u * 64) → ∀ b', g'.bk y = some b' → g.bk y = some b' ∧ b' ≠ b := by
      intro y hy b' h
      have h' : (if g.bk y = some b then none else g.bk y) = some b' := by
        have : g'.bk y = (if g.bk y = some b then none else g.bk y) := by show (if _ then _ else _) = _; rw [if_neg hy]
        rw [← this]; exact h
      split at h'
      · cases h'
      · rename_i hne; exact ⟨h', fun e => hne (by rw [← e]; exact h')⟩
    have nob : ∀ j, g.bk (.obj j) ≠ some b := fun j hj => by
      obtain ⟨t, ht, _⟩ := hfree _ (h9 _ hj)
      cases ht
    have e3 : ∀ j, j ≠ u * 64 → g'.bk (.obj j) = g.bk (.obj j) := by
      intro j hj
      show (if _ then _ else _) = _
      rw [if_neg (by simpa using hj), if_neg (nob j)]
    have RO : RelO B w g' ((u * 64, .row sz xs 0 sh) :: s.os) := by
      refine RelO.add (Grew.refl w) R.mem hk e3 (fun _ _ h => h) (fun _ _ h => .inl h) ?_ ?_ ?_
      · intro x y b' hx hy
        by_cases ex : x = .obj (u * 64)
        · by_cases ey : y = .obj (u * 64)
          · rw [ex, ey]
          · subst ex; rw [e1] at hx; cases hx; exact absurd rfl (e2 y ey _ hy).2
        · by_cases ey : y = .obj (u * 64)
          · subst ey; rw [e1] at hy; cases hy; exact absurd rfl (e2 x ex _ hx).2
          · exact R.mem.inj x y b' (e2 x ex _ hx).1 (e2 y ey _ hy).1
      · intro x b' hx
        by_cases ex : x = .obj (u * 64)
        · subst ex; rw [e1] at hx; cases hx; exact ⟨h7, h8⟩
        · exact R.mem.lt x b' (e2 x ex _ hx).1
      · exact ⟨Nat.zero_le _, .inr ⟨b, vs, el, fr, cap, e1, h1, h2, h3, h4, h5, h6⟩⟩
    have T := tr_add (g' := g') (Grew.refl w) R.mem hk (.row sz xs 0 sh) e3 (fun _ _ h => h)
    have R' := Rel.ev' R RO T (fun t v hv hn b' hb => by
      have hne : b' ≠ b := by
        rintro rfl
        obtain ⟨t', ht, h⟩ := hfree _ (h9 _ hb)
        cases ht
        rw [h v hv] at hn; cases hn
      refine ⟨?_, rfl, fun _ h => h⟩
      show (if g.bk (.slot t) = some b then none else g.bk (.slot t)) = some b'
      rw [if_neg (by rw [hb]; simpa using hne)]; exact hb)
    refine ⟨g', Rel.put R' (d := some d) (v := .row (u * 64) 0 xs.length) fun t _ => SVR.of t ?_, ?_⟩
    · exact .row (by show getObj ((u * 64, Obj.row sz xs 0 sh) :: s.os) (u * 64) = _; rw [getObj_cons, if_pos rfl]) (by simp) h4 (fun _ _ => .inr ⟨b, vs, el, fr, e1, by simp, h1, by simpa using h3⟩) (.inr (.inr (.inl ⟨b, e1, by simp⟩)))
    · refine ⟨F.size, F.tape, F.os, F.output, F.imm, F.rest, fun x b' hx hb => ?_, F.inew, F.watch⟩
      by_cases ex : x = .obj (u * 64)
      · subst ex; rw [e1] at hx; cases hx
        exact hnew _ h10 hb
      · exact F.own x b' (e2 x ex _ hx).1 hb
end
end Go.Am
namespace Go.Am
variable [Env]
section
variable [Base]
variable {P : Program} {H : Hints} {B : Nat} {w w' w0 : World} {g g' g0 : Gh} {os os' : OS} {s : St} {a : Act}

/-- what an outcome must bring -/
def Meets (B : Nat) (w : World) (g : Gh) (a : Act) (K : Act → World → Prop) (Q : Exit → Act → World → Prop) : R1 → Prop
  | .ok s' => ∀ a' w' g', Rel B w' g' s' a' → Fr w g w' g' → K a' w'
  | .pan v s' => ∀ c w' g', Rel B w' g' s' a → AVR w' g' s'.os v c → Fr w g w' g' → Q (.panic [{ v := c, recovered := false }]) a w'

section
variable [Base]
variable {o : Oper} {K : Act → World → Prop} {Q : Exit → Act → World → Prop}
theorem wp_value {c : Value} (h : (execOp a.eval o).run P w = .ok (.value c) w') (hK : K (a.put o.dst c) w') : o.wp P a w K Q := by
  unfold Oper.wp; rw [h]; exact hK
theorem wp_skip' (h : (execOp a.eval o).run P w = .ok .skip w') (hK : K (a.put o.dst undef) w') : o.wp P a w K Q := by
  unfold Oper.wp; rw [h]; exact hK
theorem wp_defer' {d : Deferred} (h : (execOp a.eval o).run P w = .ok (.defer d) w') (hK : K ({ a with defers := d :: a.defers }.put o.dst undef) w') : o.wp P a w K Q := by
  unfold Oper.wp; rw [h]; exact hK
theorem wp_panic' {v : Value} (h : (execOp a.eval o).run P w = .halt (.panic v) w') (hK : Q (.panic [{ v, recovered := false }]) a w') : o.wp P a w K Q := by
  unfold Oper.wp; rw [h]; exact hK
end

/-- what a slot alone owned is nobody's any more: its cells stay as they are -/
def Gh.keep (g : Gh) (b n : Nat) : Gh := { g with I := fun b' o => g.I b' o ∨ (b' = b ∧ o < n) }

theorem settle_rel (R : Rel B w g s a) (F : Fr w0 g0 w g) {free : Loc → Prop} {N : Nat → Prop} {sz : Nat} {xs : List (List PV)} {sh : Bool} {c : Value} (hc : Own B w g free N sz xs sh c)
    (hfree : ∀ y, free y → ∃ t, y = .slot t ∧ ∀ u, s.slots.get t = some u → nf u = true)
    (hnew : ∀ b, N b → b < w0.heap.size → ∃ y, g0.bk y = some b) : ∃ g', Rel B w g' s a ∧ Fr w0 g0 w g' ∧ PVR w g'.I (.vals sz xs) c ∧ ∀ y, g'.bk y = g.bk y := by
  rcases hc with ⟨rfl, a', rfl⟩ | ⟨b, vs, el, fr, cap, rfl, h1, h2, h3, h4, h5, h6, h7, h8, h9, h10⟩
  · exact ⟨g, R, F, .vnil, fun _ => rfl⟩
  · have nob : ∀ j, g.bk (.obj j) ≠ some b := fun j hj => by
      obtain ⟨t, ht, _⟩ := hfree _ (h9 _ hj)
      cases ht
    have hI : ∀ b' o, g.I b' o → (g.keep b (xs.length * sz)).I b' o := fun _ _ h => .inl h
    have RO : RelO B w (g.keep b (xs.length * sz)) s.os := RelO.grew (Grew.refl w) R.mem (fun _ => rfl) hI (fun b' o h => by
      rcases h with h | ⟨rfl, _⟩
      · exact .inl h
      · exact .inr ⟨h8, nob⟩) R.mem.inj R.mem.lt
    have T : Tr some w g s.os w (g.keep b (xs.length * sz)) s.os := (Grew.refl w).tr R.mem (fun _ => rfl) hI
    have R' := Rel.ev' R RO T (fun t v hv hn b' hb => ⟨hb, rfl, fun o ho => by
      rcases ho with ho | ⟨rfl, _⟩
      · exact ho
      · obtain ⟨t', ht, h⟩ := hfree _ (h9 _ hb)
        cases ht
        rw [h v hv] at hn; cases hn⟩)
    refine ⟨_, R', ⟨F.size, F.tape, F.os, F.output, fun b' o h => ⟨.inl (F.imm b' o h).1, (F.imm b' o h).2⟩, F.rest, F.own, fun b' o h hb => ?_, F.watch⟩, ?_, fun _ => rfl⟩
    · rcases h with h | ⟨rfl, _⟩
      · exact F.inew b' o h hb
      · exact .inr (hnew _ h10 hb)
    · exact pvr_of_holds (h5.mono fun b' o h => ⟨hI b' o h, rfl⟩) h1 h4 (fun o ho => .inr ⟨rfl, ho⟩)

/-- a slot takes what is new -/
theorem fresh_put (R : Rel B w g s a) (F : Fr w0 g0 w g) {d : Option Tmp} {N : Nat → Prop} {sz : Nat} {xs : List (List PV)} {sh : Bool} {c : Value} (hc : Own B w g (fun _ => False) N sz xs sh c)
    (hnew : ∀ b, N b → b < w0.heap.size → ∃ y, g0.bk y = some b) : ∃ g', Rel B w g' (put s d (.fresh sz xs)) (a.put d c) ∧ Fr w0 g0 w g' := by
  cases d with
  | none => exact ⟨g, R, F⟩
  | some d =>
  rcases hc with ⟨rfl, a', rfl⟩ | ⟨b, vs, el, fr, cap, rfl, h1, h2, h3, h4, h5, h6, h7, h8, h9, h10⟩
  · exact ⟨g, R.put fun t _ => .inl ⟨rfl, _, rfl⟩, F⟩
  · -- the slot is emptied first
    have R0 : Rel B w g (put s (some d) .undef) (a.put (some d) (.slice (some ⟨b, 0, none⟩) xs.length cap)) := R.put fun t _ => AVR.undef
    let g' : Gh := (g.keep b (xs.length * sz)).up (.slot d) (some b)
    have hI : ∀ b' o, g.I b' o → g'.I b' o := fun _ _ h => .inl h
    have nob : ∀ y, g.bk y ≠ some b := fun y hy => h9 y hy
    have ebk : ∀ y, y ≠ .slot d → g'.bk y = g.bk y := fun y hy => Gh.up_ne _ _ hy
    have RO : RelO B w g' s.os := by
      refine RelO.grew (Grew.refl w) R.mem (fun k => ebk _ (by simp)) hI (fun b' o h => ?_) (fun x y b' hx hy => ?_) (fun x b' hx => ?_)
      · rcases h with h | ⟨rfl, _⟩
        · exact .inl h
        · exact .inr ⟨h8, fun k => nob _⟩
      · by_cases ex : x = .slot d
        · by_cases ey : y = .slot d
          · rw [ex, ey]
          · subst ex; rw [Gh.up_self] at hx; cases hx; rw [ebk y ey] at hy; exact absurd hy (nob y)
        · rw [ebk x ex] at hx
          by_cases ey : y = .slot d
          · subst ey; rw [Gh.up_self] at hy; cases hy; exact absurd hx (nob x)
          · rw [ebk y ey] at hy; exact R.mem.inj x y b' hx hy
      · by_cases ex : x = .slot d
        · subst ex; rw [Gh.up_self] at hx; cases hx; exact ⟨h7, h8⟩
        · rw [ebk x ex] at hx; exact R.mem.lt x b' hx
    have T : Tr some w g s.os w g' s.os := (Grew.refl w).tr R.mem (fun k => ebk _ (by simp)) hI
    have R' : Rel B w g' (put s (some d) .undef) (a.put (some d) (.slice (some ⟨b, 0, none⟩) xs.length cap)) := Rel.ev' R0 RO T (fun t v hv hn b' hb => by
      have hne : t ≠ d := by
        rintro rfl
        rcases slots_set_get (show (s.slots.set t .undef).get t = some v from hv) with ⟨_, h, _⟩ | ⟨h, _⟩
        · rw [h] at hn; cases hn
        · exact h rfl
      refine ⟨(ebk _ (by simpa using hne)).trans hb, rfl, fun o ho => ?_⟩
      rcases ho with ho | ⟨rfl, _⟩
      · exact ho
      · exact absurd hb (nob _))
    have R2 := Rel.put R' (d := some d) (v := .fresh sz xs) (c := .slice (some ⟨b, 0, none⟩) xs.length cap) fun t ht => by
      cases ht
      refine .inr ⟨b, vs, el, fr, cap, Gh.up_self _ _ _, rfl, h1, h2, h3, h4, ?_, fun o ho => ?_⟩
      · exact pvr_of_holds (h5.mono fun b' o h => ⟨hI b' o h, rfl⟩) h1 h4 (fun o ho => .inr ⟨rfl, ho⟩)
      · rcases ho with ho | ⟨_, ho⟩
        · exact (h6 o ho).2
        · exact ho
    have e1 : put (put s (some d) .undef) (some d) (.fresh sz xs) = put s (some d) (.fresh sz xs) := by simp [Am.put, Slots.set_set]
    have e2 : (a.put (some d) (.slice (some ⟨b, 0, none⟩) xs.length cap)).put (some d) (.slice (some ⟨b, 0, none⟩) xs.length cap) = a.put (some d) (.slice (some ⟨b, 0, none⟩) xs.length cap) := by
      simp [Act.put]
    rw [e1, e2] at R2
    refine ⟨g', R2, ⟨F.size, F.tape, F.os, F.output, fun b' o h => ⟨.inl (F.imm b' o h).1, (F.imm b' o h).2⟩, F.rest, fun x b' hx hb => ?_, fun b' o h hb => ?_, F.watch⟩⟩
    · by_cases ex : x = .slot d
      · subst ex; rw [Gh.up_self] at hx; cases hx; exact hnew _ h10 hb
      · rw [ebk x ex] at hx; exact F.own x b' hx hb
    · rcases h with h | ⟨rfl, _⟩
      · exact F.inew b' o h hb
      · exact .inr (hnew _ h10 hb)

/-! ### the operations -/
variable {o : Oper} {K : Act → World → Prop} {Q : Exit → Act → World → Prop} {cx : Cx} {r : R1}

end
end Go.Am
namespace Go.Am
variable [Env]
section
variable [Base]
variable {P : Program} {H : Hints} {B : Nat} {w w' w0 : World} {g g' g0 : Gh} {os os' : OS} {s : St} {a : Act}
variable {o : Oper} {K : Act → World → Prop} {Q : Exit → Act → World → Prop} {cx : Cx} {r : R1} {call : CallFn}

/-- operations that only read -/
theorem stepV_wp (R : Rel B w g s a) {v : AV} (h : stepV P s o.op = some v) (M : Meets B w g a K Q (.ok (put s o.dst v))) : o.wp P a w K Q := by
  cases hd : o.dst with
  | none =>
    obtain ⟨c, h1, h2⟩ := stepV_sound R h 0
    refine wp_value h1 (M _ _ _ ?_ (Fr.refl w g))
    rw [hd]; exact R
  | some d =>
    obtain ⟨c, h1, h2⟩ := stepV_sound R h d
    refine wp_value h1 (M _ _ _ ?_ (Fr.refl w g))
    rw [hd]; exact R.put fun t ht => by cases ht; exact h2

theorem took_hfree {x : Operand} {v : AV} (hv : nf v = false) : ∀ y, (∃ t, tmpOf x = some t ∧ y = Loc.slot t) → ∃ t, y = .slot t ∧ ∀ u, (took s x v).slots.get t = some u → nf u = true := by
  rintro y ⟨t, ht, rfl⟩
  exact ⟨t, rfl, took_free hv ht⟩

theorem newSlice_rel (R : Rel B w g s a) {x : Operand} {v : AV} {d : Tmp} (hv : ev1 s x = some v) : ∃ g', Rel B w g' (newSlice H cx (took s x v) d v) (a.put (some d) (a.eval x)) ∧ Fr w g w g' := by
  have R0 := took_rel R x v
  unfold newSlice
  split
  · rename_i sz xs
    have ho := ev1_fresh R hv
    split
    · exact newRow_rel R0 (Fr.refl w g) ho (took_hfree rfl) (fun b hb _ => hb)
    · exact ⟨g, R0.put (d := some d) (v := .p (.vals sz xs)) fun t _ => by rw [took_os]; exact SVR.of t (ev1_rel R hv).cp, Fr.refl w g⟩
  · rename_i sz xs
    have ho := ev1_uniq R hv
    split
    · exact newRow_rel R0 (Fr.refl w g) ho (took_hfree rfl) (fun b hb _ => hb)
    · obtain ⟨g', R', F, hp, _⟩ := settle_rel R0 (Fr.refl w g) ho (took_hfree rfl) (fun b hb _ => hb)
      exact ⟨g', R'.put (d := some d) (v := .p (.vals sz xs)) fun t _ => SVR.of t (.p hp), F⟩
  · rename_i n1 n2
    have hn : nf v = true := by
      cases v with
      | fresh sz xs => exact (n1 sz xs rfl).elim
      | uniq sz xs => exact (n2 sz xs rfl).elim
      | _ => rfl
    have he : took s x v = s := by
      unfold took
      split
      · cases hn
      · cases hn
      · rfl
    rw [he]
    exact ⟨g, R.put (d := some d) (v := v) fun t _ => SVR.of t ((ev1_rel R hv).avr hn), Fr.refl w g⟩

theorem assign_wp (R : Rel B w g s a) {x : Operand} (hop : o.op = .assign x) (h : stepO P H call cx o s = some r) (M : Meets B w g a K Q r) : o.wp P a w K Q := by
  unfold stepO at h
  rw [hop] at h
  simp only at h
  split at h
  · rename_i v d hv hd
    cases h
    obtain ⟨g', R', F⟩ := newSlice_rel (H := H) (cx := cx) (d := d) R hv
    refine wp_value (c := a.eval x) (w' := w) (by unfold execOp; rw [hop]; rfl) (M _ _ _ ?_ F)
    rw [hd]; exact R'
  · cases h

theorem cells_own {z : AV} {zv : Value} (h : AVR w g os z zv) (hst : (cps (cellsOf z)).all stor = true) :
    (cellsOf z).length = zv.cells.size ∧ ∀ (i : Nat) (c : AV) (v : Value), (cellsOf z)[i]? = some c → zv.cells[i]? = some v → AVR w g os (cp c) v ∧ (c = .fresh 0 [] → ∃ a, v = .slice a 0 0) := by
  have nil : ∀ {c : AV} {v : Value}, AVR w g os c v → AVR w g os (cp c) v ∧ (c = .fresh 0 [] → ∃ a, v = .slice a 0 0) := by
    intro c v h
    refine ⟨h.cp, ?_⟩
    rintro rfl
    cases h with | nilf => exact ⟨_, rfl⟩
  have one : cellsOf z = [z] → (cellsOf z).length = zv.cells.size ∧ ∀ (i : Nat) (c : AV) (v : Value), (cellsOf z)[i]? = some c → zv.cells[i]? = some v → AVR w g os (cp c) v ∧ (c = .fresh 0 [] → ∃ a, v = .slice a 0 0) := by
    intro hz
    rw [hz] at hst ⊢
    have h1 := stor_one (by simpa [cps] using hst) h.cp
    rw [cells_of_one h1]
    refine ⟨rfl, fun i c v hc hv => ?_⟩
    cases i with
    | zero => simp at hc hv; subst hc; subst hv; exact nil h
    | succ i => simp at hc
  cases h with
  | agg hs h1 hv => exact ⟨by show _ = Array.size _; exact hs.symm, fun i c v hc hv' => nil (hv i c v hc hv')⟩
  | _ => exact one rfl

theorem newCells_stor {d : Tmp} {cs : List AV} {s' : St} (h : newCells H cx s d cs = some s') : (cps cs).all stor = true := by
  unfold newCells at h
  simp only at h
  generalize hr : rowCells H cx.f (newUnit cx s.os d * 64) d 0 cs s.os = r at h
  obtain ⟨ds, os1⟩ := r
  simp only at h
  split at h
  · rename_i hc
    have := hc.1
    refine rowCells_stor (H := H) (f := cx.f) (k := newUnit cx s.os d * 64) (d := d) cs 0 s.os ?_
    rw [hr]; exact this
  · cases h

theorem cp_cp (v : AV) : cp (cp v) = cp v := by cases v <;> rfl
theorem cp_nf (v : AV) : cp v ≠ .fresh 0 [] := by cases v <;> simp [cp]
theorem cps_cps : ∀ l : List AV, cps (cps l) = cps l
  | [] => rfl
  | v :: l => by simp [cps, cp_cp, cps_cps l]

theorem alloc_wp (hB : B ≤ w.heap.size) (R : Rel B w g s a) {t : TypeId} (hop : o.op = .alloc t) (h : stepO P H call cx o s = some r) (M : Meets B w g a K Q r) : o.wp P a w K Q := by
  unfold stepO at h
  rw [hop] at h
  simp only at h
  split at h
  · rename_i z d hz hd
    split at h
    · rename_i s' hs'
      cases h
      obtain ⟨zv, hzr, rfl⟩ := zero_rel (w := w) hz
      have hc := cells_own (ofValue_rel (v := zv) w g s.os) (newCells_stor hs')
      obtain ⟨g', R', F⟩ := newCells_rel (ty := t) hB R hs' hc
      refine wp_value (c := .pointer (some ⟨w.heap.size, 0, none⟩)) (w' := w.alloc (.cells zv.cells t)) ?_ (M _ _ _ (by rw [hd]; exact R') F)
      unfold execOp; rw [hop]
      simp [Instr.alloc, hzr, run_newVar']
    · cases h
  · cases h

theorem box_wp (hB : B ≤ w.heap.size) (R : Rel B w g s a) {t : TypeId} {x : Operand} (hop : o.op = .box t x) (h : stepO P H call cx o s = some r) (M : Meets B w g a K Q r) : o.wp P a w K Q := by
  unfold stepO at h
  rw [hop] at h
  simp only at h
  split at h
  · rename_i v d hv hd
    split at h
    · rename_i s' hs'
      cases h
      have hst := newCells_stor hs'
      rw [cps_cps] at hst
      have hc := cells_rel (ev1_rel R hv) hst
      obtain ⟨g', R', F⟩ := newCells_rel (ty := t) hB R hs' (vs := (a.eval x).cells) ⟨hc.1.1.symm, fun i c u hc' hu => by
        obtain ⟨y, hy, rfl⟩ := cps_get _ i c hc'
        rw [cp_cp]
        exact ⟨hc.1.2 i _ u hc' hu, fun e => absurd e (cp_nf y)⟩⟩
      refine wp_value (c := .pointer (some ⟨w.heap.size, 0, none⟩)) (w' := w.alloc (.cells (a.eval x).cells t)) ?_ (M _ _ _ (by rw [hd]; exact R') F)
      unfold execOp; rw [hop]
      simp [Instr.box, run_newVar']
    · cases h
  · cases h

/-- one new thing in a new block -/
theorem alloc_rel (hB : B ≤ w.heap.size) (R : Rel B w g s a) {k : Nat} (hk : getObj s.os k = none) (ob : Go.Obj) (ox : Obj)
    (ho : OR (w.alloc ob) (g.up (.obj k) (some w.heap.size)) ((k, ox) :: s.os) k ox) : Rel B (w.alloc ob) (g.up (.obj k) (some w.heap.size)) { s with os := (k, ox) :: s.os } a ∧ Fr w g (w.alloc ob) (g.up (.obj k) (some w.heap.size)) := by
  have G := Grew.alloc w ob
  have hbk : ∀ j, j ≠ k → (g.up (.obj k) (some w.heap.size)).bk (.obj j) = g.bk (.obj j) := fun j hj => Gh.up_ne _ _ (by simpa using hj)
  have hlt0 : ∀ x b, g.bk x = some b → b < w.heap.size := fun x b hb => (R.mem.lt x b hb).2
  have RO : RelO B (w.alloc ob) (g.up (.obj k) (some w.heap.size)) ((k, ox) :: s.os) := by
    refine RelO.add G R.mem hk hbk (fun _ _ h => h) (fun _ _ h => .inl h) ?_ ?_ ho
    · intro x y b hx hy
      by_cases ex : x = .obj k
      · by_cases ey : y = .obj k
        · rw [ex, ey]
        · subst ex
          rw [Gh.up_self] at hx; cases hx
          rw [Gh.up_ne _ _ ey] at hy
          exact absurd (hlt0 y _ hy) (Nat.lt_irrefl _)
      · rw [Gh.up_ne _ _ ex] at hx
        by_cases ey : y = .obj k
        · subst ey
          rw [Gh.up_self] at hy; cases hy
          exact absurd (hlt0 x _ hx) (Nat.lt_irrefl _)
        · rw [Gh.up_ne _ _ ey] at hy
          exact R.mem.inj x y b hx hy
    · intro x b hx
      by_cases ex : x = .obj k
      · subst ex; rw [Gh.up_self] at hx; cases hx; exact ⟨hB, by simp⟩
      · rw [Gh.up_ne _ _ ex] at hx
        exact ⟨(R.mem.lt x b hx).1, by have := hlt0 x b hx; simp; omega⟩
  refine ⟨Rel.ev R RO (tr_add G R.mem hk ox hbk (fun _ _ h => h)) (fun t b hb => ⟨by rw [Gh.up_ne _ _ (by simp)]; exact hb, G.old b (hlt0 _ b hb), fun _ h => h⟩), ?_⟩
  refine Grew.fr G (fun _ _ h => h) (fun b o h => R.mem.ilt b o h) (fun x b hx hb => ?_) (fun b o h _ => .inl h)
  by_cases ex : x = .obj k
  · subst ex; rw [Gh.up_self] at hx; cases hx; omega
  · rw [Gh.up_ne _ _ ex] at hx; exact ⟨x, hx⟩

theorem newUnit_free {d : Tmp} : getObj s.os (newUnit cx s.os d * 64) = none := by
  have h0 := freeU_free s.os (unitOf cx d) 0 (by omega)
  rw [Nat.add_zero] at h0
  exact h0

theorem makeMap_wp (hB : B ≤ w.heap.size) (R : Rel B w g s a) {t : TypeId} (hop : o.op = .makeMap t none) (h : stepO P H call cx o s = some r) (M : Meets B w g a K Q r) : o.wp P a w K Q := by
  unfold stepO at h
  rw [hop] at h
  simp only at h
  split at h
  · rename_i d hd
    cases h
    have hk : getObj s.os (newUnit cx s.os d * 64) = none := newUnit_free
    obtain ⟨R', F⟩ := alloc_rel hB R hk (.map #[] 0) (.map []) ⟨w.heap.size, #[], 0, Gh.up_self _ _ _, heap_alloc w _, rfl, fun j e m he => by simp at he, fun o ho => absurd (R.mem.ilt _ o ho) (Nat.lt_irrefl _)⟩
    refine wp_value (c := .map (some w.heap.size)) (w' := w.alloc (.map #[] 0)) ?_ (M _ _ _ (Rel.put R' (d := o.dst) (v := .mp (newUnit cx s.os d * 64)) fun t _ => SVR.of t (.mp (by show getObj ((_, _) :: s.os) _ = _; rw [getObj_cons, if_pos rfl]) (Gh.up_self _ _ _))) F)
    unfold execOp; rw [hop]
    simp [Instr.makeMap]
  · cases h

theorem range_wp (hB : B ≤ w.heap.size) (R : Rel B w g s a) {t : TypeId} {x : Operand} (hop : o.op = .range t x) (h : stepO P H call cx o s = some r) (M : Meets B w g a K Q r) : o.wp P a w K Q := by
  unfold stepO at h
  rw [hop] at h
  simp only at h
  split at h
  · rename_i b d hv hd hu
    cases h
    have hk : getObj s.os (newUnit cx s.os d * 64) = none := newUnit_free
    have hx : a.eval x = .string b := by
      have := ev1_rel R hv
      revert this
      generalize a.eval x = c
      intro this
      cases this with | p hp => cases hp with | «at» _ => rfl
    obtain ⟨R', F⟩ := alloc_rel hB R hk (.stringIter b 0) (.iter b 0) ⟨w.heap.size, Gh.up_self _ _ _, heap_alloc w _⟩
    refine wp_value (c := .pointer (some ⟨w.heap.size, 0, none⟩)) (w' := w.alloc (.stringIter b 0)) ?_ (M _ _ _ (Rel.put R' (d := o.dst) (v := .ptr (newUnit cx s.os d * 64) 0) fun t _ => SVR.of t (.ptr (.inr ⟨b, 0, by show getObj ((_, _) :: s.os) _ = _; rw [getObj_cons, if_pos rfl]⟩) (Gh.up_self _ _ _))) F)
    unfold execOp; rw [hop]
    have := run_range_string (P := P) w t b hu
    simp only [hx, Sem.run_bind, this, Result.andThen_ok, Sem.run_pure]
    rfl
  · cases h

theorem panic_wp (R : Rel B w g s a) {x : Operand} (hop : o.op = .panic x) (h : stepO P H call cx o s = some r) (M : Meets B w g a K Q r) : o.wp P a w K Q := by
  unfold stepO at h
  rw [hop] at h
  simp only at h
  split at h
  · rename_i t v hv
    cases h
    have hr := ev1_rel R hv
    have hr' : AVR w g s.os (.ifc t v) (a.eval x) := hr.avr rfl
    have hx : ∃ c, a.eval x = .iface t c := by
      revert hr'
      generalize a.eval x = c
      intro h
      cases h with | ifc h => exact ⟨_, rfl⟩
    obtain ⟨c, hc⟩ := hx
    refine wp_panic' (v := a.eval x) (w' := w) ?_ (M _ _ _ R hr' (Fr.refl w g))
    unfold execOp; rw [hop]
    simp [hc, Instr.panic, goPanic, Sem.run]
  · cases h
end
end Go.Am
namespace Go.Am
variable [Env]
section
variable [Base]
variable {P : Program} {H : Hints} {B : Nat} {w w' w0 : World} {g g' g'' g0 : Gh} {os os' os'' : OS} {s : St} {a : Act}

theorem getObj_set (k : Nat) (o : Obj) : ∀ (os : OS) (j : Nat), getObj (setObj os k o) j = if j = k ∧ getObj os k ≠ none then some o else getObj os j
  | [], j => by simp [setObj, getObj]
  | (i, x) :: os, j => by
    simp only [setObj]
    by_cases hik : i = k
    · subst hik
      simp only [BEq.rfl, if_true, getObj]
      by_cases hij : i = j
      · subst hij; simp
      · have : ¬ j = i := fun h => hij h.symm
        simp [hij, this]
    · have hb : (i == k) = false := by simpa using hik
      simp only [hb, Bool.false_eq_true, if_false, getObj]
      by_cases hij : i = j
      · subst hij
        simp only [BEq.rfl, if_true]
        rw [if_neg (fun h => hik h.1)]
      · have hb2 : (i == j) = false := by simpa using hij
        simp only [hb2, Bool.false_eq_true, if_false]
        exact getObj_set k o os j
theorem getObj_set_self {k : Nat} {o x : Obj} (h : getObj os k = some x) : getObj (setObj os k o) k = some o := by rw [getObj_set, if_pos ⟨rfl, by rw [h]; simp⟩]
theorem getObj_set_ne {k j : Nat} {o : Obj} (h : j ≠ k) : getObj (setObj os k o) j = getObj os j := by rw [getObj_set, if_neg (fun e => h e.1)]

/-- a row may be marked -/
def Marked (o o' : Obj) : Prop := o' = o ∨ ∃ sz xs lo sh, o = .row sz xs lo sh ∧ o' = .row sz xs lo true

/-- values told as they stand: cells are immutable now that were not -/
structure Frz (B : Nat) (w : World) (g : Gh) (os : OS) (g' : Gh) (os' : OS) : Prop where
  rel : RelO B w g' os'
  obj : ∀ k o, getObj os k = some o → ∃ o', getObj os' k = some o' ∧ Marked o o'
  bk : ∀ y, g'.bk y = g.bk y
  imm : ∀ b o, g.I b o → g'.I b o
  inew : ∀ b o, g'.I b o → g.I b o ∨ ∃ k, g.bk (.obj k) = some b
  wat : g'.W = g.W

theorem Frz.refl (R : RelO B w g os) : Frz B w g os g os :=
  ⟨R, fun _ o h => ⟨o, h, .inl rfl⟩, fun _ => rfl, fun _ _ h => h, fun _ _ h => .inl h, rfl⟩

theorem Frz.tr (h : Frz B w g os g' os') : Tr some w g os w g' os' := by
  refine ⟨fun b o hi => ⟨h.imm b o hi, rfl⟩, fun k k' o ho hk => ?_⟩
  cases hk
  obtain ⟨o1, h1, e1⟩ := h.obj k o ho
  refine ⟨o1, h1, ?_⟩
  rw [h.bk]
  rcases e1 with rfl | ⟨sz, xs, lo, sh, rfl, rfl⟩
  · exact OEv.refl (fun bb _ vs _ _ hv => ⟨vs, hv, rfl⟩) _
  · exact ⟨Nat.le_refl _, fun _ => rfl, Nat.le_refl _, fun _ => rfl, fun bb _ vs _ _ hv => ⟨vs, hv, rfl⟩, fun _ _ _ _ => .inr rfl, .inl rfl⟩

theorem Frz.trans (h : Frz B w g os g' os') (h' : Frz B w g' os' g'' os'') : Frz B w g os g'' os'' where
  rel := h'.rel
  obj k o ho := by
    obtain ⟨o1, h1, e1⟩ := h.obj k o ho
    obtain ⟨o2, h2, e2⟩ := h'.obj k o1 h1
    refine ⟨o2, h2, ?_⟩
    rcases e1 with rfl | ⟨sz, xs, lo, sh, rfl, rfl⟩
    · exact e2
    · rcases e2 with rfl | ⟨sz', xs', lo', sh', e, rfl⟩
      · exact .inr ⟨_, _, _, _, rfl, rfl⟩
      · cases e; exact .inr ⟨_, _, _, _, rfl, rfl⟩
  bk y := (h'.bk y).trans (h.bk y)
  imm b o hi := h'.imm b o (h.imm b o hi)
  inew b o hi := by
    rcases h'.inew b o hi with h1 | ⟨k, hk⟩
    · exact h.inew b o h1
    · exact .inr ⟨k, by rw [← h.bk]; exact hk⟩
  wat := h'.wat.trans h.wat

/-- a row's cells are immutable from now on -/
theorem share_rel (R : RelO B w g os) (k : Nat) : ∃ g', Frz B w g os g' (share os k) ∧ ∀ b sz xs lo sh, g.bk (.obj k) = some b → getObj os k = some (.row sz xs lo sh) → ∀ o, o < xs.length * sz → g'.I b o := by
  by_cases hrow : ∃ sz xs lo sh, getObj os k = some (.row sz xs lo sh)
  · obtain ⟨sz, xs, lo, sh, hk⟩ := hrow
    let g' : Gh := { g with I := fun b o => g.I b o ∨ (g.bk (.obj k) = some b ∧ o < xs.length * sz) }
    have hsh : ∀ j, getObj (share os k) j = if j = k then some (.row sz xs lo true) else getObj os j := by
      intro j
      unfold share
      rw [hk]
      simp only
      by_cases e : j = k
      · subst e; rw [if_pos rfl, getObj_set_self hk]
      · rw [if_neg e, getObj_set_ne e]
    have hobj : ∀ j o, getObj os j = some o → ∃ o', getObj (share os k) j = some o' ∧ Marked o o' := by
      intro j o ho
      rw [hsh]
      by_cases e : j = k
      · subst e; rw [hk] at ho; cases ho; exact ⟨_, if_pos rfl, .inr ⟨_, _, _, _, rfl, rfl⟩⟩
      · rw [if_neg e]; exact ⟨o, ho, .inl rfl⟩
    have T : Tr some w g os w g' (share os k) := by
      refine ⟨fun b o hi => ⟨.inl hi, rfl⟩, fun j j' o ho hk => ?_⟩
      cases hk
      obtain ⟨o1, h1, e1⟩ := hobj j o ho
      refine ⟨o1, h1, ?_⟩
      rcases e1 with rfl | ⟨sz, xs, lo, sh, rfl, rfl⟩
      · exact OEv.refl (fun bb _ vs _ _ hv => ⟨vs, hv, rfl⟩) _
      · exact ⟨Nat.le_refl _, fun _ => rfl, Nat.le_refl _, fun _ => rfl, fun bb _ vs _ _ hv => ⟨vs, hv, rfl⟩, fun _ _ _ _ => .inr rfl, .inl rfl⟩
    refine ⟨g', ⟨⟨fun j o ho => ?_, fun j b hb => ?_, R.inj, R.lt, fun b o ho => ?_, fun v c hv => (R.watch v c hv).ev T, R.base⟩, hobj, fun _ => rfl, fun _ _ h => .inl h, fun b o ho => ?_, rfl⟩, fun b sz' xs' lo' sh' hb hr o ho => ?_⟩
    · rw [hsh] at ho
      split at ho
      · rename_i e; subst e
        cases ho
        obtain ⟨h0, h1⟩ := R.obj j _ hk
        refine ⟨h0, ?_⟩
        rcases h1 with ⟨h1, h2⟩ | ⟨b, vs, el, fr, cap, h1, h2, h3, h4, h5, h6, h7⟩
        · exact .inl ⟨h1, h2⟩
        · refine .inr ⟨b, vs, el, fr, cap, h1, h2, h3, h4, h5, h6.mono (fun b o h => ⟨.inl h, rfl⟩), fun o ho => ⟨rfl, ?_⟩⟩
          rcases ho with ho | ⟨_, ho⟩
          · exact (h7 o ho).2
          · exact ho
      · rename_i e
        refine (R.obj j o ho).ev T rfl fun b hb => ⟨rfl, fun o' ho' => ?_⟩
        rcases ho' with ho' | ⟨hb', _⟩
        · exact ho'
        · have := R.inj _ _ b hb hb'
          exact absurd (by simpa using this) e
    · obtain ⟨o, ho⟩ := R.dom j b hb
      obtain ⟨o', h1, _⟩ := hobj j o ho
      exact ⟨o', h1⟩
    · rcases ho with ho | ⟨hb, _⟩
      · exact R.ilt b o ho
      · exact (R.lt _ b hb).2
    · rcases ho with ho | ⟨hb, _⟩
      · exact .inl ho
      · exact .inr ⟨k, hb⟩
    · rw [hk] at hr; cases hr
      exact .inr ⟨hb, ho⟩
  · have e : share os k = os := by
      unfold share
      split
      · rename_i sz xs lo sh hk; exact absurd ⟨sz, xs, lo, sh, hk⟩ hrow
      · rfl
    rw [e]
    exact ⟨g, Frz.refl R, fun b sz xs lo sh _ hr => absurd ⟨sz, xs, lo, sh, hr⟩ hrow⟩

theorem frz_cp {v : AV} {r : PV × OS} (h : frz os v = some r) : frz os (cp v) = some r := by
  cases v <;> first | exact h | (simp only [frz] at h; cases h; rfl) | (simp [frz] at h)

mutual
theorem frz_rel {B : Nat} {w : World} {g : Gh} {os : OS} (R : RelO B w g os) : ∀ {v : AV} {c : Value} {x : PV} {os' : OS}, frz os v = some (x, os') → AVR w g os v c → ∃ g', Frz B w g os g' os' ∧ PVR w g'.I x c
  | .p y, c, x, os', h, hv => by
    simp only [frz] at h; cases h
    cases hv with | p hp => exact ⟨g, Frz.refl R, hp⟩
  | .fresh sz xs, c, x, os', h, hv => by
    simp only [frz] at h; cases h
    cases hv with | nilf => exact ⟨g, Frz.refl R, .vnil⟩
  | .row k off len, c, x, os', h, hv => by
    simp only [frz] at h
    split at h
    · rename_i sz ys hra
      cases h
      obtain ⟨g', F, hI⟩ := share_rel R k
      refine ⟨g', F, ?_⟩
      unfold rowAt at hra
      split at hra
      · rename_i sz' xs lo sh hk
        split at hra
        · rename_i hcond
          cases hra
          cases hv with
          | @row _ _ _ _ _ cap _ _ a hk' hl hcap hcur hc =>
            rw [hk] at hk'; cases hk'
            rcases Nat.eq_zero_or_pos len with h0 | h0
            · subst h0; simp only [List.take_zero]; exact .vnil
            · rcases hc with hc | hc | ⟨b, hb, ha⟩ | hc
              · omega
              · omega
              · subst ha
                obtain ⟨_, hrow⟩ := R.obj k _ hk
                rcases hrow with ⟨hn, rfl⟩ | ⟨b', vs, el, fr, bc, h1, h2, h3, h4, h5, h6, h7⟩
                · simp at hl; omega
                · rw [hb] at h1; cases h1
                  have := (pvr_of_holds (h6.mono fun b o h => ⟨F.imm b o h, rfl⟩) h2 (Nat.le_refl _) (fun o ho => hI b _ _ _ _ hb hk o ho)).sub off len cap hl hcap
                  simpa using this
              · exact hc.mono fun b o h => ⟨F.imm b o h, rfl⟩
        · cases hra
      · cases hra
    · cases h
  | .agg cs, c, x, os', h, hv => by
    simp only [frz] at h
    split at h
    · rename_i xs os1 hxs
      cases h
      cases hv with
      | agg hs h1 hv =>
        rename_i vs
        obtain ⟨g', F, hl, hp⟩ := frzs_rel R hxs (vs := vs.toList) (by simpa using hs.symm) (fun j c v hc hv' => hv j c v hc (by simpa using hv'))
        exact ⟨g', F, .agg (by rw [hs, hl]) h1 fun j c v hc hv' => hp j c v hc (by simpa using hv')⟩
    · cases h
  | .ifc t y, c, x, os', h, hv => by
    simp only [frz] at h
    split at h
    · rename_i y' os1 hy
      cases h
      cases hv with
      | ifc hv =>
        obtain ⟨g', F, hp⟩ := frz_rel R hy hv
        exact ⟨g', F, .ifc hp⟩
    · cases h
  | .fn f [], c, x, os', h, hv => by
    simp only [frz] at h; cases h
    cases hv with
    | fn hs hv =>
      rename_i vs
      have : vs = #[] := by simpa using hs
      subst this
      exact ⟨g, Frz.refl R, .at rfl⟩
  | .fn f (_ :: _), c, x, os', h, hv => by simp [frz] at h
  | .uniq _ _, c, x, os', h, hv => by simp [frz] at h
  | .ptr _ _, c, x, os', h, hv => by simp [frz] at h
  | .eptr _ _ _ _, c, x, os', h, hv => by simp [frz] at h
  | .elem _ _, c, x, os', h, hv => by simp [frz] at h
  | .mp _, c, x, os', h, hv => by simp [frz] at h
  | .tup _, c, x, os', h, hv => by simp [frz] at h
  | .undef, c, x, os', h, hv => by simp [frz] at h
theorem frzs_rel {B : Nat} {w : World} {g : Gh} {os : OS} (R : RelO B w g os) : ∀ {cs : List AV} {vs : List Value} {xs : List PV} {os' : OS}, frzs os cs = some (xs, os') → cs.length = vs.length →
    (∀ (j : Nat) (c : AV) (v : Value), cs[j]? = some c → vs[j]? = some v → AVR w g os c v) → ∃ g', Frz B w g os g' os' ∧ xs.length = cs.length ∧ ∀ (j : Nat) (x : PV) (v : Value), xs[j]? = some x → vs[j]? = some v → PVR w g'.I x v
  | [], vs, xs, os', h, hl, hr => by
    simp only [frzs] at h; cases h
    exact ⟨g, Frz.refl R, rfl, fun j x v hx => by simp at hx⟩
  | c :: cs, [], xs, os', h, hl, hr => by simp at hl
  | c :: cs, v :: vs, xs, os', h, hl, hr => by
    simp only [frzs] at h
    split at h
    · rename_i y os1 hy
      split at h
      · rename_i ys os2 hys
        cases h
        obtain ⟨g1, F1, hp1⟩ := frz_rel R hy (hr 0 c v rfl rfl)
        obtain ⟨g2, F2, hl2, hp2⟩ := frzs_rel F1.rel hys (by simpa using hl) (fun j c v hc hv => (hr (j + 1) c v (by simpa using hc) (by simpa using hv)).ev F1.tr)
        refine ⟨g2, F1.trans F2, by simp [hl2], fun j x u hx hu => ?_⟩
        cases j with
        | zero => simp at hx hu; subst hx; subst hu; exact hp1.mono fun b o h => ⟨F2.imm b o h, rfl⟩
        | succ j => exact hp2 j x u (by simpa using hx) (by simpa using hu)
      · cases h
    · cases h
end

/-- a state, after some of its values were told as they stand -/
theorem Frz.state (F : Frz B w g s.os g' os') (R : Rel B w g s a) : Rel B w g' { s with os := os' } a :=
  Rel.ev R F.rel F.tr fun t b hb => ⟨(F.bk _).trans hb, rfl, fun o ho => by
    rcases F.inew b o ho with h | ⟨k, hk⟩
    · exact h
    · have := R.mem.inj _ _ b hk hb
      cases this⟩
theorem Frz.fr (F : Frz B w g os g' os') : Fr w g w g' :=
  ⟨Nat.le_refl _, rfl, rfl, rfl, fun b o h => ⟨F.imm b o h, rfl⟩, fun _ _ _ => rfl, fun x b hx _ => ⟨x, by rw [← F.bk]; exact hx⟩, fun b o h _ => by
    rcases F.inew b o h with h | ⟨k, hk⟩
    · exact .inl h
    · exact .inr ⟨_, hk⟩, fun v c h => (by rw [F.wat]; exact h)⟩
end
end Go.Am
namespace Go.Am
variable [Env]
section
variable [Base]
variable {P : Program} {H : Hints} {B : Nat} {w w' w0 : World} {g g' g'' g0 : Gh} {os os' os'' : OS} {s : St} {a : Act}
variable {o : Oper} {K : Act → World → Prop} {Q : Exit → Act → World → Prop} {cx : Cx} {r : R1} {call : CallFn}

/-- one block was written -/
structure Wrote (w w' : World) (b : Nat) : Prop where
  size : w'.heap.size = w.heap.size
  tape : w'.tape = w.tape
  os : w'.os = w.os
  output : w'.output = w.output
  other : ∀ b', b' ≠ b → w'.heap[b']? = w.heap[b']?

theorem Based.wrote {b : Nat} (h : Based B w) (W : Wrote w w' b) (hb : B ≤ b) : Based B w' :=
  ⟨Base.keep w w' (by rw [W.size]; exact Nat.le_refl _) (fun b' hb' => W.other b' (by have := h.2.1; omega)) h.1, h.2.1, by rw [W.size]; exact h.2.2⟩
theorem wrote_setRow (w : World) (b : Nat) (vs : Array Value) : Wrote w (w.setRow b vs) b :=
  ⟨by simp [World.setRow], rfl, rfl, rfl, fun b' h => setRow_other w b b' vs h⟩

/-- cells, written one behind the other -/
theorem run_storeCells_own (b o : Nat) (t : TypeId) (fz : Nat × Nat) : ∀ (vs : List Value) (i : Nat) (cur : Array Value) (w : World), w.heap[b]? = some (.cells cur t fz) → (∀ j, o + i ≤ j → j < o + i + vs.length → ¬ (fz.1 ≤ j ∧ j < fz.2)) →
    o + i + vs.length ≤ cur.size → (∀ v ∈ vs, v.oneCell' = true) → (storeCells ⟨b, o, none⟩ vs i).run P w = .ok () (w.setRow b (setRange cur.toList (o + i) vs).toArray)
  | [], i, cur, w, hg, _, _, _ => by
    simp only [storeCells, setRange, Array.toArray_toList]
    rw [setRow_self w b cur t fz hg]
    rfl
  | v :: rest, i, cur, w, hg, hfz, hl, h1 => by
    have hi : o + i < cur.size := by simp at hl; omega
    have hcell : w.cell? ⟨b, o + i, none⟩ = some cur[o + i] := by simp [World.cell?, hg, hi]
    have hfro : w.frozen? ⟨b, o + i, none⟩ = false := by
      obtain ⟨lo, hi'⟩ := fz
      have := hfz (o + i) (Nat.le_refl _) (by simp)
      simp only [World.frozen?, hg, Bool.and_eq_false_iff, decide_eq_false_iff_not]
      simp only at this
      omega
    have hst : (store ((⟨b, o, none⟩ : Addr).add i) v).run P w = .ok () (w.setRow b (cur.setIfInBounds (o + i) v)) := by
      rw [add_plain, run_store P w _ v _ (h1 v (by simp)), hcell]
      simp [hfro, setCell_eq_setRow w b (o + i) cur t fz v hg]
    have ih := run_storeCells_own b o t fz rest (i + 1) (cur.setIfInBounds (o + i) v) (w.setRow b (cur.setIfInBounds (o + i) v)) (setRow_heap w b cur _ t _ hg) (fun j hj hj2 => hfz j (by omega) (by simp; omega)) (by simp at hl ⊢; omega) (fun x hx => h1 x (by simp [hx]))
    simp only [storeCells, Sem.run_bind, hst, Result.andThen_ok, ih, setRow_setRow, setRange, Array.toList_setIfInBounds, Nat.add_assoc]

theorem Tr.set {b k : Nat} {o o' : Obj} (W : Wrote w w' b) (R : RelO B w g os) (hk : getObj os k = some o) (hb : g.bk (.obj k) = some b) (hi : ∀ o, g.I b o → w'.cell? ⟨b, o, none⟩ = w.cell? ⟨b, o, none⟩)
    (E : OEv (some b) (some b) w w' g.I o o') : Tr some w g os w' g (setObj os k o') where
  imm b' x hx := by
    refine ⟨hx, ?_⟩
    by_cases e : b' = b
    · subst e; exact hi x hx
    · exact cell_heap (W.other b' e) x
  obj j j' x hx hj := by
    cases hj
    by_cases e : j = k
    · subst e
      rw [hk] at hx; cases hx
      exact ⟨o', getObj_set_self hk, by rw [hb]; exact E⟩
    · refine ⟨x, by rw [getObj_set_ne e]; exact hx, OEv.refl (fun bb hbb vs el fr hv => ⟨vs, ?_, rfl⟩) x⟩
      have : bb ≠ b := by
        rintro rfl
        have := R.inj _ _ bb hbb hb
        exact e (by simpa using this)
      rw [W.other bb this]; exact hv

theorem RelO.set {b k : Nat} {o o' : Obj} (W : Wrote w w' b) (R : RelO B w g os) (hk : getObj os k = some o) (hb : g.bk (.obj k) = some b) (T : Tr some w g os w' g (setObj os k o'))
    (ho : OR w' g (setObj os k o') k o') : RelO B w' g (setObj os k o') where
  obj j x hx := by
    by_cases e : j = k
    · subst e
      rw [getObj_set_self hk] at hx; cases hx
      exact ho
    · rw [getObj_set_ne e] at hx
      refine (R.obj j x hx).ev T rfl fun bb hbb => ⟨W.other bb ?_, fun _ h => h⟩
      rintro rfl
      have := R.inj _ _ bb hbb hb
      exact e (by simpa using this)
  dom j bb hbb := by
    obtain ⟨x, hx⟩ := R.dom j bb hbb
    by_cases e : j = k
    · subst e; exact ⟨_, getObj_set_self hk⟩
    · exact ⟨x, by rw [getObj_set_ne e]; exact hx⟩
  inj := R.inj
  lt x bb hbb := by rw [W.size]; exact R.lt x bb hbb
  ilt bb x hx := by rw [W.size]; exact R.ilt bb x hx
  watch v c hv := (R.watch v c hv).ev T
  base := R.base.wrote W (R.lt _ b hb).1

theorem Rel.set {b k : Nat} {o o' : Obj} (W : Wrote w w' b) (R : Rel B w g s a) (hk : getObj s.os k = some o) (hb : g.bk (.obj k) = some b) (T : Tr some w g s.os w' g (setObj s.os k o'))
    (ho : OR w' g (setObj s.os k o') k o') : Rel B w' g { s with os := setObj s.os k o' } a ∧ Fr w g w' g := by
  refine ⟨Rel.ev R (RelO.set W R.mem hk hb T ho) T fun t bb hbb => ⟨hbb, W.other bb ?_, fun _ h => h⟩, ?_⟩
  · rintro rfl
    have := R.mem.inj _ _ bb hbb hb
    cases this
  · refine ⟨by rw [W.size]; exact Nat.le_refl _, W.tape, W.os, W.output, T.imm, fun bb _ hn => W.other bb ?_, fun x bb hx _ => ⟨x, hx⟩, fun _ _ h _ => .inl h, fun _ _ h => h⟩
    rintro rfl
    exact hn _ hb

/-- a store into cells -/
theorem store_cells_rel (R : Rel B w g s a) {k off b : Nat} {cs cs' : List AV} (hk : getObj s.os k = some (.cells cs)) (hb : g.bk (.obj k) = some b) {t : TypeId} {v : Value} {us : Array Value} (hus : v.cells = us) (hsz : sizeIs P t us.size = true)
    (hone : ∀ (j : Nat) (u : Value), us[j]? = some u → u.oneCell' = true) (hl : cs'.length = cs.length) (hle : off + us.size ≤ cs.length)
    (hnew : ∀ (j : Nat) (c : AV), cs'[j]? = some c → (off ≤ j ∧ j < off + us.size ∧ ∀ u, us[j - off]? = some u → AVR w g s.os c u) ∨ ((j < off ∨ off + us.size ≤ j) ∧ cs[j]? = some c)) :
    ∃ w', (storeVar t ⟨b, off, none⟩ v).run P w = .ok () w' ∧ Rel B w' g { s with os := setObj s.os k (.cells cs') } a ∧ Fr w g w' g := by
  obtain ⟨b', vs, el, h1, h2, h3, h4, h5⟩ := R.mem.obj k _ hk
  rw [hb] at h1; cases h1
  unfold sizeIs at hsz
  split at hsz
  · rename_i i hi
    have hsize : i.size = us.size := by simp at hsz; exact hsz.1
    have hrun := run_storeCells_own (P := P) b off el (0, 0) us.toList 0 vs w h2 (fun j _ _ h => by have := h.2; simp at this) (by simp; omega) (fun u hu => by
      obtain ⟨j, hj⟩ := List.mem_iff_getElem?.1 hu
      exact hone j u (by simpa using hj))
    have W := wrote_setRow w b (setRange vs.toList off us.toList).toArray
    have hheap := setRow_heap w b vs (setRange vs.toList off us.toList).toArray el (0, 0) h2
    have T : Tr some w g s.os (w.setRow b (setRange vs.toList off us.toList).toArray) g (setObj s.os k (.cells cs')) := Tr.set W R.mem hk hb (fun o ho => absurd ho (h5 o)) (by exact rfl)
    have HO : OR (w.setRow b (setRange vs.toList off us.toList).toArray) g (setObj s.os k (.cells cs')) k (.cells cs') := by
      refine ⟨b, _, el, hb, hheap, by simp [setRange_length, h3, hl], fun j c u hc hu => ?_, h5⟩
      have hu' : (setRange vs.toList off us.toList)[j]? = some u := by simpa using hu
      rw [setRange_get _ _ _ _ (by simp; omega)] at hu'
      rcases hnew j c hc with ⟨e1, e2, e3⟩ | ⟨e1, e2⟩
      · rw [if_pos ⟨e1, by simpa using e2⟩] at hu'
        have hu2 : us[j - off]? = some u := by simpa using hu'
        exact ⟨(e3 u hu2).ev T, hone _ u hu2⟩
      · rw [if_neg (by simp; omega)] at hu'
        have hu2 : vs[j]? = some u := by simpa using hu'
        obtain ⟨e3, e4⟩ := h4 j c u e2 hu2
        exact ⟨e3.ev T, e4⟩
    obtain ⟨R', F⟩ := Rel.set W R hk hb T HO
    refine ⟨_, ?_, R', F⟩
    simp only [storeVar, Sem.run_bind, szT_run hi, Result.andThen_ok, hus]
    rw [if_neg (by simp [hsize])]
    exact hrun
  · cases hsz

theorem storeCs_rel {k : Nat} (R : RelO B w g os) : ∀ (vs : List AV) (us : List Value) (cs cs' : List AV) (off : Nat), storeCs k os cs off vs = some cs' → vs.length = us.length →
    (∀ (j : Nat) (v : AV) (u : Value), vs[j]? = some v → us[j]? = some u → AVR w g os v u) → cs'.length = cs.length ∧ (vs ≠ [] → off + us.length ≤ cs.length) ∧
      ∀ (j : Nat) (c : AV), cs'[j]? = some c → (off ≤ j ∧ j < off + us.length ∧ ∀ u, us[j - off]? = some u → AVR w g os c u ∧ u.oneCell' = true) ∨ ((j < off ∨ off + us.length ≤ j) ∧ cs[j]? = some c)
  | [], [], cs, cs', off, h, _, _ => by
    cases h
    exact ⟨rfl, fun h => absurd rfl h, fun j c hc => .inr ⟨by simp; omega, hc⟩⟩
  | v :: vs, u :: us, cs, cs', off, h, hl, hr => by
    have hv0 := hr 0 v u rfl rfl
    have key : ∀ x : AV, storeCs k os (cs.set off x) (off + 1) vs = some cs' → off < cs.length → AVR w g os x u → u.oneCell' = true → cs'.length = cs.length ∧ (v :: vs ≠ [] → off + (u :: us).length ≤ cs.length) ∧
      ∀ (j : Nat) (c : AV), cs'[j]? = some c → (off ≤ j ∧ j < off + (u :: us).length ∧ ∀ y, (u :: us)[j - off]? = some y → AVR w g os c y ∧ y.oneCell' = true) ∨ ((j < off ∨ off + (u :: us).length ≤ j) ∧ cs[j]? = some c) := by
      intro x hx hoff hxu hone
      obtain ⟨e1, e2, e3⟩ := storeCs_rel R vs us _ cs' (off + 1) hx (by simpa using hl) (fun j v u hv hu => hr (j + 1) v u (by simpa using hv) (by simpa using hu))
      rw [List.length_set] at e1 e2
      refine ⟨e1, fun _ => ?_, fun j c hc => ?_⟩
      · cases vs with
        | nil => simp at hl; subst hl; simp; omega
        | cons => have := e2 (by simp); simp at this ⊢; omega
      · rcases e3 j c hc with ⟨p1, p2, p3⟩ | ⟨p1, p2⟩
        · refine .inl ⟨by omega, by simp; omega, fun y hy => p3 y ?_⟩
          obtain ⟨m, hm⟩ : ∃ m, j - off = m + 1 := ⟨j - (off + 1), by omega⟩
          rw [hm, List.getElem?_cons_succ] at hy
          rw [← hy]; congr 1; omega
        · rcases list_set_get p2 with ⟨rfl, rfl, _⟩ | ⟨hne, p2⟩
          · refine .inl ⟨Nat.le_refl _, by simp, fun y hy => ?_⟩
            simp at hy; subst hy
            exact ⟨hxu, hone⟩
          · exact .inr ⟨by simp; omega, p2⟩
    unfold storeCs at h
    split at h
    · rename_i hoff
      split at h
      · have hu : ∃ a, u = .slice a 0 0 := by cases hv0; exact ⟨_, rfl⟩
        obtain ⟨ad, rfl⟩ := hu
        split at h
        · rename_i lo sh hrow
          refine key _ h hoff (.row hrow (Nat.le_refl _) (Nat.le_refl _) (fun _ _ => .inl ⟨?_, rfl⟩) (.inl rfl)) rfl
          obtain ⟨_, hh⟩ := R.obj _ _ hrow
          rcases hh with ⟨hh, _⟩ | ⟨_, _, _, _, _, _, _, hh, _⟩
          · exact hh
          · exact absurd rfl hh.1
        · exact key _ h hoff (.p .vnil) rfl
      · split at h
        · rename_i hst
          exact key _ h hoff hv0 (stor_one hst hv0)
        · cases h
    · cases h
  | [], _ :: _, _, _, _, _, hl, _ => by simp at hl
  | _ :: _, [], _, _, _, _, hl, _ => by simp at hl
end
end Go.Am
namespace Go.Am
variable [Env]
section
variable [Base]
variable {P : Program} {H : Hints} {B : Nat} {w w' w0 : World} {g g' g'' g0 : Gh} {os os' os'' : OS} {s : St} {a : Act}
variable {o : Oper} {K : Act → World → Prop} {Q : Exit → Act → World → Prop} {cx : Cx} {r : R1} {call : CallFn}

/-- what a slot alone owns fills the row that waits -/
theorem fillRow_rel (R : Rel B w g s a) (F : Fr w0 g0 w g) {free : Loc → Prop} {N : Nat → Prop} {sz kk lo : Nat} {xs : List (List PV)} {sh sh0 : Bool} {c : Value} (hne : xs ≠ []) (hc : Own B w g free N sz xs sh c)
    (hfree : ∀ y, free y → ∃ t, y = .slot t ∧ ∀ u, s.slots.get t = some u → nf u = true) (hnew : ∀ b, N b → b < w0.heap.size → ∃ y, g0.bk y = some b) (hk : getObj s.os kk = some (.row 0 [] lo sh0)) :
    ∃ g', Rel B w g' { s with os := setObj s.os kk (.row sz xs 0 sh) } a ∧ Fr w0 g0 w g' ∧ AVR w g' (setObj s.os kk (.row sz xs 0 sh)) (.row kk 0 xs.length) c ∧ ∀ j, j ≠ kk → g'.bk (.obj j) = g.bk (.obj j) := by
  obtain ⟨hlo, hrow⟩ := R.mem.obj kk _ hk
  have hlo0 : lo = 0 := by simpa using hlo
  have hnone : g.bk (.obj kk) = none := by
    rcases hrow with ⟨h, _⟩ | ⟨_, _, _, _, _, _, _, h, _⟩
    · exact h
    · exact absurd rfl h.1
  rcases hc with ⟨h, _⟩ | ⟨b, vs, el, fr, cap, rfl, h1, h2, h3, h4, h5, h6, h7, h8, h9, h10⟩
  · exact absurd h hne
  · let g' : Gh := { g with bk := fun y => if y = .obj kk then some b else if g.bk y = some b then none else g.bk y }
    have e1 : g'.bk (.obj kk) = some b := by show (if _ then _ else _) = _; rw [if_pos rfl]
    have e2 : ∀ y, y ≠ .obj kk → ∀ b', g'.bk y = some b' → g.bk y = some b' ∧ b' ≠ b := by
      intro y hy b' h
      have h' : (if g.bk y = some b then none else g.bk y) = some b' := by
        have : g'.bk y = (if g.bk y = some b then none else g.bk y) := by show (if _ then _ else _) = _; rw [if_neg hy]
        rw [← this]; exact h
      split at h'
      · cases h'
      · rename_i hne; exact ⟨h', fun e => hne (by rw [← e]; exact h')⟩
    have nob : ∀ j, g.bk (.obj j) ≠ some b := fun j hj => by
      obtain ⟨t, ht, _⟩ := hfree _ (h9 _ hj)
      cases ht
    have e3 : ∀ j, j ≠ kk → g'.bk (.obj j) = g.bk (.obj j) := by
      intro j hj
      show (if _ then _ else _) = _
      rw [if_neg (by simpa using hj), if_neg (nob j)]
    have T : Tr some w g s.os w g' (setObj s.os kk (.row sz xs 0 sh)) := by
      refine ⟨fun b o hi => ⟨hi, rfl⟩, fun j j' x hx hj => ?_⟩
      cases hj
      by_cases e : j = kk
      · subst e
        rw [hk] at hx; cases hx
        refine ⟨_, getObj_set_self hk, ?_⟩
        rw [hnone]
        refine ⟨Nat.zero_le _, fun h => ?_, by omega, fun h => absurd (List.eq_nil_of_length_eq_zero (by simpa using h)) hne, fun bb h => (by cases h), fun off len hl _ => ?_, .inr fun bb h => (by cases h)⟩
        · rcases h with h | h
          · exact absurd rfl h
          · exact absurd rfl h
        · simp at hl
          obtain ⟨rfl, rfl⟩ := hl
          exact .inr (by simp)
      · refine ⟨x, by rw [getObj_set_ne e]; exact hx, ?_⟩
        rw [e3 j e]
        exact OEv.refl (fun bb _ vs _ _ hv => ⟨vs, hv, rfl⟩) x
    have RO : RelO B w g' (setObj s.os kk (.row sz xs 0 sh)) := by
      refine ⟨fun j x hx => ?_, fun j b' hb => ?_, fun x y b' hx hy => ?_, fun x b' hx => ?_, R.mem.ilt, fun v c hv => (R.mem.watch v c hv).ev T, R.mem.base⟩
      · by_cases e : j = kk
        · subst e
          rw [getObj_set_self hk] at hx; cases hx
          exact ⟨Nat.zero_le _, .inr ⟨b, vs, el, fr, cap, e1, h1, h2, h3, h4, h5, h6⟩⟩
        · rw [getObj_set_ne e] at hx
          exact (R.mem.obj j x hx).ev T (e3 j e) fun bb _ => ⟨rfl, fun _ h => h⟩
      · by_cases e : j = kk
        · subst e; exact ⟨_, getObj_set_self hk⟩
        · rw [e3 j e] at hb
          obtain ⟨x, hx⟩ := R.mem.dom j b' hb
          exact ⟨x, by rw [getObj_set_ne e]; exact hx⟩
      · by_cases ex : x = .obj kk
        · by_cases ey : y = .obj kk
          · rw [ex, ey]
          · subst ex; rw [e1] at hx; cases hx; exact absurd rfl (e2 y ey _ hy).2
        · by_cases ey : y = .obj kk
          · subst ey; rw [e1] at hy; cases hy; exact absurd rfl (e2 x ex _ hx).2
          · exact R.mem.inj x y b' (e2 x ex _ hx).1 (e2 y ey _ hy).1
      · by_cases ex : x = .obj kk
        · subst ex; rw [e1] at hx; cases hx; exact ⟨h7, h8⟩
        · exact R.mem.lt x b' (e2 x ex _ hx).1
    have R' := Rel.ev' R RO T (fun t v hv hn b' hb => by
      have hne : b' ≠ b := by
        rintro rfl
        obtain ⟨t', ht, h⟩ := hfree _ (h9 _ hb)
        cases ht
        rw [h v hv] at hn; cases hn
      refine ⟨?_, rfl, fun _ h => h⟩
      show (if g.bk (.slot t) = some b then none else g.bk (.slot t)) = some b'
      rw [if_neg (by rw [hb]; simpa using hne)]; exact hb)
    refine ⟨g', R', ⟨F.size, F.tape, F.os, F.output, F.imm, F.rest, fun x b' hx hb => ?_, F.inew, F.watch⟩, ?_, e3⟩
    · by_cases ex : x = .obj kk
      · subst ex; rw [e1] at hx; cases hx
        exact hnew _ h10 hb
      · exact F.own x b' (e2 x ex _ hx).1 hb
    · exact .row (getObj_set_self hk) (by simp) h4 (fun _ _ => .inr ⟨b, vs, el, fr, e1, by simp, h1, by simpa using h3⟩) (.inr (.inr (.inl ⟨b, e1, by simp⟩)))

/-- what a slot alone owns, stored -/
theorem storeOwn_rel (R : Rel B w g s a) (F : Fr w0 g0 w g) {free : Loc → Prop} {N : Nat → Prop} {sz k off : Nat} {cs : List AV} {xs : List (List PV)} {sh : Bool} {c : Value} (h : storeOwn k s.os cs off sz xs sh = some os')
    (hc : Own B w g free N sz xs sh c) (hfree : ∀ y, free y → ∃ t, y = .slot t ∧ ∀ u, s.slots.get t = some u → nf u = true) (hnew : ∀ b, N b → b < w0.heap.size → ∃ y, g0.bk y = some b) (hk : getObj s.os k = some (.cells cs)) :
    off < cs.length ∧ ∃ g1 os1 v, os' = setObj os1 k (.cells (cs.set off v)) ∧ Rel B w g1 { s with os := os1 } a ∧ Fr w0 g0 w g1 ∧ AVR w g1 os1 v c ∧ getObj os1 k = some (.cells cs) ∧ g1.bk (.obj k) = g.bk (.obj k) := by
  have plain : off < cs.length → os' = setObj s.os k (.cells (cs.set off (.p (.vals sz xs)))) → ∃ g1 os1 v, os' = setObj os1 k (.cells (cs.set off v)) ∧ Rel B w g1 { s with os := os1 } a ∧ Fr w0 g0 w g1 ∧ AVR w g1 os1 v c ∧ getObj os1 k = some (.cells cs) ∧ g1.bk (.obj k) = g.bk (.obj k) := by
    intro _ he
    obtain ⟨g', R', F', hp, hb⟩ := settle_rel R F hc hfree hnew
    exact ⟨g', s.os, _, he, R', F', .p hp, hk, hb _⟩
  unfold storeOwn at h
  split at h
  · rename_i hoff
    refine ⟨hoff, ?_⟩
    split at h
    · rename_i lo sh0 hrow
      split at h
      · rename_i hemp
        have hx : xs = [] := by simpa using hemp
        subst hx
        split at h
        · rename_i hz
          cases h
          subst hz
          have hcn : ∃ a, c = .slice a 0 0 := by
            rcases hc with ⟨_, h⟩ | ⟨_, _, _, _, _, _, _, h, _⟩
            · exact h
            · exact absurd rfl h.1
          obtain ⟨ad, rfl⟩ := hcn
          refine ⟨g, s.os, _, rfl, R, F, .row hrow (Nat.le_refl _) (Nat.le_refl _) (fun _ _ => .inl ⟨?_, rfl⟩) (.inl rfl), hk, rfl⟩
          obtain ⟨_, hh⟩ := R.mem.obj _ _ hrow
          rcases hh with ⟨hh, _⟩ | ⟨_, _, _, _, _, _, _, hh, _⟩
          · exact hh
          · exact absurd rfl hh.1
        · cases h; exact plain hoff rfl
      · rename_i hemp
        have hne : xs ≠ [] := by simpa using hemp
        cases h
        obtain ⟨g1, R1, F1, hv, hb⟩ := fillRow_rel R F hne hc hfree hnew hrow
        exact ⟨g1, _, _, rfl, R1, F1, hv, by rw [getObj_set_ne (by omega)]; exact hk, hb k (by omega)⟩
    · cases h; exact plain hoff rfl
  · cases h

theorem put_os (s : St) (d : Option Tmp) (v : AV) (os : OS) : ({ put s d v with os := os } : St) = put { s with os := os } d v := by cases d <;> rfl

theorem cells_slice {x : Option Addr} {n m : Nat} : (Value.slice x n m).cells = #[.slice x n m] := rfl

theorem own_slice {free : Loc → Prop} {N : Nat → Prop} {sz : Nat} {xs : List (List PV)} {sh : Bool} {c : Value} (hc : Own B w g free N sz xs sh c) : ∃ x n m, c = .slice x n m := by
  rcases hc with ⟨_, _, rfl⟩ | ⟨_, _, _, _, _, rfl, _⟩
  · exact ⟨_, _, _, rfl⟩
  · exact ⟨_, _, _, rfl⟩

theorem store_own (R : Rel B w g s a) {free : Loc → Prop} {N : Nat → Prop} {sz k off b : Nat} {cs : List AV} {xs : List (List PV)} {sh : Bool} {c : Value} (h : storeOwn k s.os cs off sz xs sh = some os')
    (hc : Own B w g free N sz xs sh c) (hfree : ∀ y, free y → ∃ t, y = .slot t ∧ ∀ u, s.slots.get t = some u → nf u = true) (hnew : ∀ b, N b → b < w.heap.size → ∃ y, g.bk y = some b) (hk : getObj s.os k = some (.cells cs))
    (hb : g.bk (.obj k) = some b) {t : TypeId} (hsz : sizeIs P t 1 = true) : ∃ w' g', (storeVar t ⟨b, off, none⟩ c).run P w = .ok () w' ∧ Rel B w' g' { s with os := os' } a ∧ Fr w g w' g' := by
  obtain ⟨hoff, g1, os1, v, rfl, R1, F1, hv, hk1, hb1⟩ := storeOwn_rel R (Fr.refl w g) h hc hfree hnew hk
  obtain ⟨x, n, m, rfl⟩ := own_slice hc
  obtain ⟨w', hr, R2, F2⟩ := store_cells_rel (P := P) (t := t) (off := off) (cs' := cs.set off v) R1 hk1 (hb1.trans hb) cells_slice hsz (fun j u hu => by
      cases j with
      | zero => simp at hu; subst hu; rfl
      | succ j => simp at hu) (by simp) (by simp; omega) (fun j y hy => by
      rcases list_set_get hy with ⟨rfl, rfl, _⟩ | ⟨hne, hy⟩
      · refine .inl ⟨Nat.le_refl _, by simp, fun u hu => ?_⟩
        simp at hu; subst hu; exact hv
      · exact .inr ⟨by simp; omega, hy⟩)
  exact ⟨w', g1, hr, R2, F1.trans F2⟩
end
end Go.Am
namespace Go.Am
variable [Env]
section
variable [Base]
variable {P : Program} {H : Hints} {B : Nat} {w w' w0 : World} {g g' g'' g0 : Gh} {os os' os'' : OS} {s : St} {a : Act}
variable {o : Oper} {K : Act → World → Prop} {Q : Exit → Act → World → Prop} {cx : Cx} {r : R1} {call : CallFn}

theorem frzs_cps : ∀ {cs : List AV} {os : OS} {r : List PV × OS}, frzs os cs = some r → frzs os (cps cs) = some r
  | [], os, r, h => h
  | c :: cs, os, r, h => by
    simp only [frzs] at h
    simp only [cps, frzs]
    split at h
    · rename_i y os1 hy
      rw [frz_cp hy]
      simp only
      split at h
      · rename_i ys os2 hys
        rw [frzs_cps hys]; exact h
      · cases h
    · cases h

theorem idx_lt {i n sz j : Nat} (hi : i < n) (hj : j < sz) : i * sz + j < n * sz := by
  calc i * sz + j < i * sz + sz := by omega
    _ = (i + 1) * sz := by rw [Nat.add_mul, Nat.one_mul]
    _ ≤ n * sz := Nat.mul_le_mul_right _ hi
theorem idx_apart {i i' sz j o n : Nat} (h : i' ≠ i) (hj : j < sz) (ho : o + n ≤ sz) : i' * sz + j < i * sz + o ∨ i * sz + o + n ≤ i' * sz + j := by
  rcases Nat.lt_or_gt_of_ne h with h | h
  · left
    have : i' * sz + j < (i' + 1) * sz := by rw [Nat.add_mul, Nat.one_mul]; omega
    have h2 : (i' + 1) * sz ≤ i * sz := Nat.mul_le_mul_right _ h
    omega
  · right
    have : (i + 1) * sz ≤ i' * sz := Nat.mul_le_mul_right _ h
    rw [Nat.add_mul, Nat.one_mul] at this
    omega

/-- a store into a row's element -/
theorem store_row_rel (R : Rel B w g s a) {k i off b sz lo : Nat} {xs : List (List PV)} {cs ps : List PV} (hk : getObj s.os k = some (.row sz xs lo false)) (hb : g.bk (.obj k) = some b) {t : TypeId} {v : Value} {us : Array Value} (hus : v.cells = us)
    (hsz : sizeIs P t us.size = true) (hone : ∀ (j : Nat) (u : Value), us[j]? = some u → u.oneCell' = true) (hi : xs[i]? = some cs) (hle : off + ps.length ≤ cs.length) (hps : ps.length = us.size)
    (hpv : ∀ (j : Nat) (p : PV) (u : Value), ps[j]? = some p → us[j]? = some u → PVR w g.I p u) :
    ∃ w', (storeVar t ⟨b, i * sz + off, none⟩ v).run P w = .ok () w' ∧ Rel B w' g { s with os := setObj s.os k (.row sz (xs.set i (setRange cs off ps)) xs.length false) } a ∧ Fr w g w' g := by
  obtain ⟨hlo, hrow⟩ := R.mem.obj k _ hk
  have hlt : i < xs.length := (List.getElem?_eq_some_iff.1 hi).1
  rcases hrow with ⟨_, rfl⟩ | ⟨b', vs, el, fr, cap, h1, h2, h3, h4, h5, h6, h7⟩
  · simp at hlt
  rw [hb] at h1; cases h1
  have hcs : cs.length = sz := h6.1 cs (List.mem_of_getElem? hi)
  have hnoI : ∀ o, ¬ g.I b o := fun o ho => by have := (h7 o ho).1; cases this
  have hbound : i * sz + off + us.size ≤ vs.size := by
    have h8 : (i + 1) * sz ≤ cap * sz := Nat.mul_le_mul_right _ (by omega)
    rw [Nat.add_mul, Nat.one_mul] at h8
    omega
  unfold sizeIs at hsz
  split at hsz
  · rename_i inf hinf
    have hsize : inf.size = us.size := by simp at hsz; exact hsz.1
    have hrun := run_storeCells_own (P := P) b (i * sz + off) el fr us.toList 0 vs w h2 (fun j _ hj => h3.2 j (by simp at hj; omega)) (by simp; omega) (fun u hu => by
      obtain ⟨j, hj⟩ := List.mem_iff_getElem?.1 hu
      exact hone j u (by simpa using hj))
    have W := wrote_setRow w b (setRange vs.toList (i * sz + off) us.toList).toArray
    have hheap := setRow_heap w b vs (setRange vs.toList (i * sz + off) us.toList).toArray el fr h2
    have hvs : ∀ m, (setRange vs.toList (i * sz + off) us.toList).toArray[m]? = if i * sz + off ≤ m ∧ m < i * sz + off + us.size then us[m - (i * sz + off)]? else vs[m]? := by
      intro m
      rw [List.getElem?_toArray, setRange_get _ _ _ _ (by simp; omega)]
      simp
    have hsame : (setRange vs.toList (i * sz + off) us.toList).toArray.size = vs.size := by simp [setRange_length]
    have T : Tr some w g s.os (w.setRow b (setRange vs.toList (i * sz + off) us.toList).toArray) g (setObj s.os k (.row sz (xs.set i (setRange cs off ps)) xs.length false)) := by
      refine Tr.set W R.mem hk hb (fun o ho => absurd ho (hnoI o)) ⟨by simp, fun _ => rfl, hlo, fun _ => rfl, fun bb hbb vs' el' fr' hv => ?_, fun off' len' h1 h2 => ?_, .inl rfl⟩
      · cases hbb
        rw [h2] at hv; cases hv
        exact ⟨_, hheap, hsame⟩
      · exact .inl ⟨by omega, by simp⟩
    have HO : OR (w.setRow b (setRange vs.toList (i * sz + off) us.toList).toArray) g (setObj s.os k (.row sz (xs.set i (setRange cs off ps)) xs.length false)) k (.row sz (xs.set i (setRange cs off ps)) xs.length false) := by
      refine ⟨by simp, .inr ⟨b, _, el, fr, cap, hb, hheap, by rw [hsame]; exact h3, by rw [hsame]; exact h4, by simpa using h5, ⟨fun x hx => ?_, fun i' x j y hx hy => ?_⟩, fun o ho => absurd ho (hnoI o)⟩⟩
      · rcases List.mem_or_eq_of_mem_set hx with h | rfl
        · exact h6.1 x h
        · rw [setRange_length]; exact hcs
      · rw [hvs]
        rcases list_set_get hx with ⟨rfl, rfl, _⟩ | ⟨hne, hx⟩
        · rw [setRange_get _ _ _ _ hle] at hy
          split at hy
          · rename_i hj
            have hj2 : j - off < us.size := by omega
            refine ⟨us[j - off], ?_, hone _ _ (Array.getElem?_eq_getElem hj2), (hpv (j - off) y _ hy (Array.getElem?_eq_getElem hj2)).mono T.imm⟩
            rw [if_pos ⟨by omega, by omega⟩, show i' * sz + j - (i' * sz + off) = j - off by omega]
            exact Array.getElem?_eq_getElem hj2
          · rename_i hj
            obtain ⟨v, p1, p2, p3⟩ := h6.2 i' cs j y hi hy
            refine ⟨v, ?_, p2, p3.mono T.imm⟩
            rw [if_neg (by omega)]; exact p1
        · obtain ⟨v, p1, p2, p3⟩ := h6.2 i' x j y hx hy
          have hjx : j < sz := by rw [← h6.1 x (List.mem_of_getElem? hx)]; exact (List.getElem?_eq_some_iff.1 hy).1
          refine ⟨v, ?_, p2, p3.mono T.imm⟩
          have := idx_apart (o := off) (n := us.size) hne hjx (by omega)
          rw [if_neg (by omega)]; exact p1
    obtain ⟨R', F⟩ := Rel.set W R hk hb T HO
    refine ⟨_, ?_, R', F⟩
    simp only [storeVar, Sem.run_bind, szT_run hinf, Result.andThen_ok, hus]
    rw [if_neg (by simp [hsize])]
    exact hrun
  · cases hsz

theorem ownB {x : Operand} {v : AV} {sz : Nat} {xs : List (List PV)} (R : Rel B w g s a) (hx : ev1 s x = some v) (hv : v = .fresh sz xs) : nf v = false := by subst hv; rfl

theorem store_wp (R : Rel B w g s a) {t : TypeId} {p x : Operand} (hop : o.op = .store t p x) (h : stepO P H call cx o s = some r) (M : Meets B w g a K Q r) : o.wp P a w K Q := by
  unfold stepO at h
  rw [hop] at h
  simp only at h
  split at h
  · rename_i av v hp hx
    split at h
    · rename_i hsz
      split at h
      · rename_i os' hst
        cases h
        have goal : ∀ b off, a.eval p = .pointer (some ⟨b, off, none⟩) → (∃ w' g', (storeVar t ⟨b, off, none⟩ (a.eval x)).run P w = .ok () w' ∧ Rel B w' g' { took s x v with os := os' } a ∧ Fr w g w' g') → o.wp P a w K Q := by
          rintro b off he ⟨w', g', h1, h2, h3⟩
          refine wp_skip' (w' := w') ?_ (M _ _ g' ?_ h3)
          · unfold execOp; rw [hop]
            simp only [he, Instr.storeAt, Instr.sureAddr, Sem.run_bind, Sem.run_pure, Result.andThen_ok, h1]
          · rw [put_os]; exact h2.put fun t _ => AVR.undef
        have R0 := took_rel R x v
        unfold storeN at hst
        split at hst
        · rename_i k off
          have hpr := (ev1_rel R hp).avr rfl
          split at hst
          · rename_i cs hk
            have hk0 : getObj (took s x v).os k = some (.cells cs) := by rw [took_os]; exact hk
            have haddr : ∃ b, a.eval p = .pointer (some ⟨b, off, none⟩) ∧ g.bk (.obj k) = some b := by
              revert hpr
              generalize a.eval p = c
              intro hpr
              cases hpr with | ptr _ hb => exact ⟨_, rfl, hb⟩
            obtain ⟨b, he, hb⟩ := haddr
            split at hst
            · rename_i sz xs
              have ho := ev1_fresh R hx
              exact goal b off he (store_own (s := took s x (.fresh sz xs)) R0 (by rw [took_os]; exact hst) ho (took_hfree rfl) (fun b hb _ => hb) hk0 hb hsz)
            · rename_i sz xs
              have ho := ev1_uniq R hx
              exact goal b off he (store_own (s := took s x (.uniq sz xs)) R0 (by rw [took_os]; exact hst) ho (took_hfree rfl) (fun b hb _ => hb) hk0 hb hsz)
            · rename_i n1 n2
              have hn : nf v = true := by
                cases v with
                | fresh sz xs => exact (n1 sz xs rfl).elim
                | uniq sz xs => exact (n2 sz xs rfl).elim
                | _ => rfl
              split at hst
              · rename_i cs' hcs
                cases hst
                have hxr := (ev1_rel R hx).avr hn
                -- the value's cells
                have hcells : (cellsOf v).length = (a.eval x).cells.size ∧ ∀ (j : Nat) (c : AV) (u : Value), (cellsOf v)[j]? = some c → (a.eval x).cells[j]? = some u → AVR w g s.os c u := by
                  revert hxr
                  generalize a.eval x = c
                  intro hxr
                  have one : ∀ z, cellsOf v = [v] → storeCs k s.os cs off [v] = some z → (cellsOf v).length = c.cells.size ∧ ∀ (j : Nat) (y : AV) (u : Value), (cellsOf v)[j]? = some y → c.cells[j]? = some u → AVR w g s.os y u := by
                    intro z hz hs
                    have h1 : c.oneCell' = true := by
                      unfold storeCs at hs
                      split at hs
                      · split at hs
                        · cases hn
                        · split at hs
                          · rename_i hst; exact stor_one hst hxr
                          · cases hs
                      · cases hs
                    rw [hz, cells_of_one h1]
                    refine ⟨rfl, fun j y u hy hu => ?_⟩
                    cases j with
                    | zero => simp at hy hu; subst hy; subst hu; exact hxr
                    | succ j => simp at hy
                  cases hxr with
                  | agg hs h1 hv => exact ⟨hs.symm, hv⟩
                  | _ => exact one _ rfl (by simpa [cellsOf] using hcs)
                have hsc := storeCs_rel R.mem (cellsOf v) (a.eval x).cells.toList cs cs' off hcs (by simpa using hcells.1) (fun j c u hc hu => hcells.2 j c u hc (by simpa using hu))
                have hne : cellsOf v ≠ [] := by
                  intro he
                  rw [he] at hsz
                  unfold sizeIs at hsz
                  split at hsz
                  · simp at hsz
                  · cases hsz
                obtain ⟨e1, e2, e3⟩ := hsc
                have htook : took s x v = s := by
                  unfold took
                  split
                  · cases hn
                  · cases hn
                  · rfl
                rw [htook] at goal
                refine goal b off he ?_
                have hone : ∀ (j : Nat) (u : Value), (a.eval x).cells[j]? = some u → u.oneCell' = true := by
                  intro j u hu
                  have hlt := (Array.getElem?_eq_some_iff.1 hu).1
                  have h4 := e2 hne
                  simp at h4
                  have hget : cs'[off + j]? = some (cs'[off + j]'(by omega)) := List.getElem?_eq_getElem (by omega)
                  rcases e3 (off + j) _ hget with ⟨_, _, q3⟩ | ⟨q1, _⟩
                  · exact (q3 u (by rw [show off + j - off = j by omega]; simpa using hu)).2
                  · simp at q1; omega
                have hnew : ∀ (j : Nat) (c : AV), cs'[j]? = some c → (off ≤ j ∧ j < off + (a.eval x).cells.size ∧ ∀ u, (a.eval x).cells[j - off]? = some u → AVR w g s.os c u) ∨ ((j < off ∨ off + (a.eval x).cells.size ≤ j) ∧ cs[j]? = some c) := by
                  intro j c hc
                  rcases e3 j c hc with ⟨q1, q2, q3⟩ | ⟨q1, q2⟩
                  · exact .inl ⟨q1, by simpa using q2, fun u hu => (q3 u (by simpa using hu)).1⟩
                  · exact .inr ⟨by simpa using q1, q2⟩
                obtain ⟨w', p1, p2, p3⟩ := store_cells_rel (P := P) (t := t) (v := a.eval x) (off := off) (cs' := cs') R hk hb rfl (by rw [← hcells.1]; exact hsz) hone e1 (by simpa using e2 hne) hnew
                exact ⟨w', g, p1, p2, p3⟩
              · cases hst
          · cases hst
        · rename_i k i off m
          have hpr := (ev1_rel R hp).avr rfl
          split at hst
          · rename_i ps os1 hps
            split at hst
            · rename_i sz xs lo hk
              split at hst
              · rename_i cs hi
                split at hst
                · rename_i hcond
                  cases hst
                  obtain ⟨c1, c2, c3⟩ := hcond
                  have hcr := cells_rel (ev1_rel R hx) c3
                  obtain ⟨g1, F1, hl1, hp1⟩ := frzs_rel R.mem (vs := (a.eval x).cells.toList) (frzs_cps hps) (by simpa using hcr.1.1.symm) (fun j c u hc hu => hcr.1.2 j c u hc (by simpa using hu))
                  have R1 : Rel B w g1 { took s x v with os := os1 } a := by
                    have := Frz.state (s := took s x v) (by rw [took_os]; exact F1) R0
                    exact this
                  have hpr1 := hpr.ev F1.tr
                  have hcur : ∃ b, g1.bk (.obj k) = some b ∧ a.eval p = .pointer (some ⟨b, i * sz + off, none⟩) := by
                    revert hpr1
                    generalize a.eval p = c
                    intro hpr1
                    cases hpr1 with
                    | eptr hk' _ _ _ hv =>
                      rw [hk] at hk'; cases hk'
                      exact hv c2
                  obtain ⟨b, hb, he⟩ := hcur
                  have hlen : ps.length = (a.eval x).cells.size := by rw [hl1, hcr.1.1]
                  obtain ⟨w', q1, q2, q3⟩ := store_row_rel (P := P) (s := { took s x v with os := os1 }) (t := t) (v := a.eval x) R1 hk hb rfl (by rw [← hlen, hl1, cps_length]; exact hsz) hcr.2 hi c1 hlen (fun j p u hp hu => hp1 j p u hp (by simpa using hu))
                  exact goal b _ he ⟨w', g1, q1, q2, F1.fr.trans q3⟩
                · cases hst
              · cases hst
            · cases hst
          · cases hst
        · cases hst
      · cases h
    · cases h
  · cases h
end
end Go.Am
namespace Go.Am
variable [Env]
section
variable [Base]
variable {P : Program} {H : Hints} {B : Nat} {w w' w0 : World} {g g' g'' g0 : Gh} {os os' os'' : OS} {s : St} {a : Act}
variable {o : Oper} {K : Act → World → Prop} {Q : Exit → Act → World → Prop} {cx : Cx} {r : R1} {call : CallFn}

/-- the world grows by a block that nobody knows yet -/
theorem grew_rel (G : Grew w w') (R : Rel B w g s a) : Rel B w' g s a ∧ Fr w g w' g := by
  have RO : RelO B w' g s.os := RelO.grew G R.mem (fun _ => rfl) (fun _ _ h => h) (fun _ _ h => .inl h) R.mem.inj (fun x b hb => ⟨(R.mem.lt x b hb).1, Nat.lt_of_lt_of_le (R.mem.lt x b hb).2 G.size⟩)
  refine ⟨Rel.ev R RO (G.tr R.mem (fun _ => rfl) (fun _ _ h => h)) fun t b hb => ⟨hb, G.old b (R.mem.lt _ b hb).2, fun _ h => h⟩, ?_⟩
  exact Grew.fr G (fun _ _ h => h) R.mem.ilt (fun x b hx _ => ⟨x, hx⟩) (fun _ _ h _ => .inl h)

/-- single cells, one behind the other -/
theorem holds_ones {I : Nat → Nat → Prop} {vs : Array Value} {l : List Value} (h1 : ∀ (i : Nat) (v : Value), l[i]? = some v → vs[i]? = some v ∧ v.oneCell' = true) : Holds w I vs 1 (l.map fun v => [.at v]) := by
  refine ⟨fun x hx => ?_, fun i x j y hx hy => ?_⟩
  · obtain ⟨v, _, rfl⟩ := List.mem_map.1 hx; rfl
  · rw [List.getElem?_map] at hx
    cases hv : l[i]? with
    | none => rw [hv] at hx; cases hx
    | some v =>
      rw [hv] at hx; cases hx
      cases j with
      | zero =>
        simp at hy; subst hy
        obtain ⟨h2, h3⟩ := h1 i v hv
        exact ⟨v, by simpa using h2, h3, .at h3⟩
      | succ j => simp at hy

theorem byteElems_map : ∀ l : List UInt8, byteElems l = (l.map fun c => Value.int .u8 c.toNat).map fun v => [PV.at v]
  | [] => rfl
  | c :: l => by simp [byteElems, byteElems_map l]
theorem runeElems_map : ∀ l : List Value, runeElems l = l.map fun v => [PV.at v]
  | [] => rfl
  | c :: l => by simp [runeElems, runeElems_map l]

theorem runesFrom_one (b : ByteArray) : ∀ (n i : Nat) (acc : Array Value), (∀ v ∈ acc, v.oneCell' = true) → ∀ v ∈ Conv.runesFrom b n i acc, v.oneCell' = true
  | 0, i, acc, h => by simpa [Conv.runesFrom] using h
  | n + 1, i, acc, h => by
    unfold Conv.runesFrom
    split
    · refine runesFrom_one b n _ _ fun v hv => ?_
      rcases Array.mem_push.1 hv with hv | rfl
      · exact h v hv
      · rfl
    · exact h

/-- a new block for a slot -/
theorem new_put (hB : B ≤ w.heap.size) (R : Rel B w g s a) {w1 : World} (G : Grew w w1) (hs : w1.heap.size = w.heap.size) {d : Option Tmp} {sz cap : Nat} {xs : List (List PV)} {vs : Array Value} {el : TypeId} {fr : Nat × Nat} (h2 : frok fr vs.size sz) (h3 : vs.size = cap * sz)
    (h4 : xs.length ≤ cap) (h5 : Holds w g.I vs sz xs) : ∃ g', Rel B (w1.alloc (.cells vs el fr)) g' (put s d (.fresh sz xs)) (a.put d (.slice (some ⟨w.heap.size, 0, none⟩) xs.length cap)) ∧ Fr w g (w1.alloc (.cells vs el fr)) g' := by
  have G2 : Grew w (w1.alloc (.cells vs el fr)) := G.trans (Grew.alloc w1 _)
  obtain ⟨R1, F1⟩ := grew_rel G2 R
  have hh : (w1.alloc (.cells vs el fr)).heap[w.heap.size]? = some (.cells vs el fr) := by rw [← hs]; exact heap_alloc w1 _
  refine fresh_put (N := fun b => b = w.heap.size) R1 F1 (.inr ⟨w.heap.size, vs, el, fr, cap, rfl, hh, h2, h3, h4, h5.mono (fun b o h => ⟨h, cell_heap (G2.old b (R.mem.ilt b o h)) o⟩), fun o ho => absurd (R.mem.ilt _ o ho) (Nat.lt_irrefl _), hB, by simp [hs], fun y hy => ?_, rfl⟩) (sh := true) (fun b hb hlt => by subst hb; omega)
  exact absurd (R.mem.lt y _ hy).2 (Nat.lt_irrefl _)

theorem convert_wp (hB : B ≤ w.heap.size) (R : Rel B w g s a) {src dst : TypeId} {x : Operand} (hop : o.op = .convert src dst x) (h : stepO P H call cx o s = some r) (M : Meets B w g a K Q r) : o.wp P a w K Q := by
  unfold stepO at h
  rw [hop] at h
  simp only at h
  split at h
  · rename_i v hv
    split at h
    · rename_i xs hxs
      cases h
      unfold convS at hxs
      split at hxs
      · rename_i e hsrc hdst
        split at hxs
        · rename_i b
          have hx : a.eval x = .string b := by
            have := ev1_rel R hv
            revert this
            generalize a.eval x = c
            intro this
            cases this with | p hp => cases hp with | «at» _ => rfl
          split at hxs
          · rename_i he
            cases hxs
            have hrun := run_bytes_of_string (P := P) w src dst e b hsrc hdst he
            rw [byteElems_map] at M
            have hge : b.size ≤ grownCap w b.size 0 e := grownCap_ge _ _ _ _
            have hsz : (bytesRow b (grownCap w b.size 0 e)).size = grownCap w b.size 0 e := by
              have : b.data.size = b.size := rfl
              simp [bytesRow]; omega
            obtain ⟨g', R', F⟩ := new_put (el := e) (fr := ((bytesRow b (grownCap w b.size 0 e)).size, (bytesRow b (grownCap w b.size 0 e)).size + 1)) (d := o.dst) hB R (Grew.drew w) rfl (sz := 1) (cap := grownCap w b.size 0 e) (xs := ((b.data.toList.map fun c => Value.int .u8 c.toNat).map fun v => [PV.at v])) (vs := bytesRow b (grownCap w b.size 0 e))
              ⟨by decide, fun o ho h => by have := h.1; simp at this; omega⟩ (by rw [hsz]; omega) (by simp; exact hge) (holds_ones fun i v hv => by
                have hlt := (List.getElem?_eq_some_iff.1 hv).1
                rw [List.getElem?_map] at hv
                cases hb : b.data.toList[i]? with
                | none => rw [hb] at hv; cases hv
                | some c =>
                  rw [hb] at hv; cases hv
                  refine ⟨?_, rfl⟩
                  have hi : i < b.data.size := by simpa using hlt
                  have hb' : b.data[i]? = some c := by simpa using hb
                  rw [bytesRow, Array.getElem?_append_left (by simpa using hi), Array.getElem?_map, hb']
                  rfl)
            refine wp_value (c := .slice (some ⟨w.heap.size, 0, none⟩) b.size (grownCap w b.size 0 e)) ?_ (M _ _ _ ?_ F)
            · unfold execOp; rw [hop]
              simp only [hx, Sem.run_bind, hrun, Result.andThen_ok, Sem.run_pure]
            · have : ((b.data.toList.map fun c => Value.int .u8 c.toNat).map fun v => [PV.at v]).length = b.size := by simp
              rw [this] at R'; exact R'
          · rename_i he
            split at hxs
            · rename_i hle
              cases hxs
              have h46 : (Conv.runesFrom b b.size 0 #[]).size ≤ 70368744177664 := by have := size_runesFrom b b.size 0 #[]; simp at this; omega
              have hrun := run_runes_of_string (P := P) w src dst e b hsrc hdst he h46
              rw [runeElems_map] at M
              generalize hrs : Conv.runesFrom b b.size 0 #[] = rs at hrun M h46
              have hone : ∀ v ∈ rs, v.oneCell' = true := by rw [← hrs]; exact runesFrom_one b b.size 0 #[] (fun v hv => by simp at hv)
              have hge : rs.size ≤ grownCap w rs.size 0 e := grownCap_ge _ _ _ _
              obtain ⟨g', R', F⟩ := new_put (el := e) (fr := (0, 0)) (d := o.dst) hB R (Grew.drew w) rfl (sz := 1) (cap := grownCap w rs.size 0 e) (xs := (rs.toList.map fun v => [PV.at v])) (vs := rs ++ Array.replicate (grownCap w rs.size 0 e - rs.size) (.int .i32 0))
                (frok_zero _ (by decide)) (by simp; omega) (by simp; exact hge) (holds_ones fun i v hv => by
                  have hlt := (List.getElem?_eq_some_iff.1 hv).1
                  have hv' : rs[i]? = some v := by simpa using hv
                  refine ⟨?_, hone v (Array.mem_of_getElem? hv')⟩
                  rw [Array.getElem?_append_left (by simpa using hlt)]; exact hv')
              refine wp_value (c := .slice (some ⟨w.heap.size, 0, none⟩) rs.size (grownCap w rs.size 0 e)) ?_ (M _ _ _ ?_ F)
              · unfold execOp; rw [hop]
                simp only [hx, Sem.run_bind, hrun, Result.andThen_ok, Sem.run_pure]
              · simpa using R'
            · cases hxs
          · cases hxs
        · cases hxs
      · cases hxs
    · split at h
      · rename_i v' hv'
        cases h
        obtain ⟨c, h1, h2⟩ := convV_rel R.mem hv' (ev1_rel R hv)
        refine wp_value (c := c) (w' := w) ?_ (M _ _ _ (R.put fun t _ => SVR.of t h2) (Fr.refl w g))
        unfold execOp; rw [hop]
        simp only [Sem.run_bind, h1, Result.andThen_ok, Sem.run_pure]
      · cases h
  · cases h
end
end Go.Am
namespace Go.Am
variable [Env]
section
variable [Base]
variable {P : Program} {H : Hints} {B : Nat} {w w' w0 : World} {g g' g'' g0 : Gh} {os os' os'' : OS} {s : St} {a : Act}
variable {o : Oper} {K : Act → World → Prop} {Q : Exit → Act → World → Prop} {cx : Cx} {r : R1} {call : CallFn}

theorem fill_dense (size : Nat) : ∀ (vs : List (Nat × Value)) (i : Nat) (C : Array Value), (∀ (m : Nat) (p : Nat × Value), vs[m]? = some p → p.1 = i + m ∧ p.2.cells.size = size) → (i + vs.length) * size ≤ C.size →
    ∃ D, Instr.fill (fun i => some (i * size, size)) C vs = some D ∧ D.size = C.size ∧ (∀ m, m < i * size → D[m]? = C[m]?) ∧
      ∀ (m : Nat) (p : Nat × Value) (q : Nat), vs[m]? = some p → q < size → D[(i + m) * size + q]? = p.2.cells[q]?
  | [], i, C, _, _ => ⟨C, rfl, rfl, fun _ _ => rfl, fun m p q h => by simp at h⟩
  | (j, v) :: vs, i, C, h, hl => by
    obtain ⟨e1, e2⟩ := h 0 (j, v) rfl
    simp only [Nat.add_zero] at e1 e2
    subst e1
    have hl' : j * size + size + vs.length * size ≤ C.size := by
      have : (j + (vs.length + 1)) * size = j * size + size + vs.length * size := by rw [Nat.add_mul, Nat.add_mul, Nat.one_mul]; omega
      simp only [List.length_cons] at hl
      omega
    have hfold : (v.cells.zipIdx.foldl (fun cs (c, k) => cs.setIfInBounds (j * size + k) c) C) = (setRange C.toList (j * size) v.cells.toList).toArray := by
      rw [← Array.foldl_toList, Array.toList_zipIdx]
      exact zipIdx_fold_set _ C (j * size) 0 (by simp; omega)
    have hsz : (setRange C.toList (j * size) v.cells.toList).toArray.size = C.size := by simp [setRange_length]
    obtain ⟨D, d1, d2, d3, d4⟩ := fill_dense size vs (j + 1) (setRange C.toList (j * size) v.cells.toList).toArray (fun m p hp => by
      obtain ⟨q1, q2⟩ := h (m + 1) p (by simpa using hp)
      exact ⟨by omega, q2⟩) (by rw [hsz, Nat.add_mul, Nat.add_mul, Nat.one_mul]; omega)
    have get : ∀ m, (setRange C.toList (j * size) v.cells.toList).toArray[m]? = if j * size ≤ m ∧ m < j * size + v.cells.size then v.cells[m - j * size]? else C[m]? := by
      intro m
      rw [List.getElem?_toArray, setRange_get _ _ _ _ (by simp; omega)]
      simp
    have hj1 : (j + 1) * size = j * size + size := by rw [Nat.add_mul, Nat.one_mul]
    refine ⟨D, ?_, d2.trans hsz, fun m hm => ?_, fun m p q hp hq => ?_⟩
    · simp only [Instr.fill]
      rw [if_neg (by simp [e2]; omega), hfold]
      exact d1
    · rw [d3 m (by omega), get, if_neg (by omega)]
    · cases m with
      | zero =>
        simp at hp; subst hp
        simp only [Nat.add_zero]
        rw [d3 _ (by omega), get, if_pos (by omega), show j * size + q - j * size = q by omega]
      | succ m =>
        have := d4 m p q (by simpa using hp) hq
        rw [show j + (m + 1) = j + 1 + m by omega]
        exact this

theorem litElems_rel {B : Nat} {w : World} {size : Nat} {g0 : Gh} {os0 : OS} : ∀ {ps : List (Nat × AV)} {g : Gh} {os : OS} (_ : Frz B w g0 os0 g os) {vs : List (Nat × Value)} {i : Nat} {xs : List (List PV)} {os' : OS}, litElems size i ps os = some (xs, os') → ps.length = vs.length →
    (∀ (m : Nat) (p : Nat × AV) (q : Nat × Value), ps[m]? = some p → vs[m]? = some q → p.1 = q.1 ∧ ∃ l, SVR w g0 os0 l p.2 q.2) →
    ∃ g', Frz B w g os g' os' ∧ xs.length = vs.length ∧ (∀ (m : Nat) (q : Nat × Value), vs[m]? = some q → q.1 = i + m ∧ q.2.cells.size = size) ∧ (∀ x ∈ xs, x.length = size) ∧
      ∀ (m : Nat) (x : List PV) (q : Nat × Value) (j : Nat) (y : PV), xs[m]? = some x → vs[m]? = some q → x[j]? = some y → ∃ u, q.2.cells[j]? = some u ∧ u.oneCell' = true ∧ PVR w g'.I y u
  | [], g, os, F0, [], i, xs, os', h, hl, hr => by
    simp only [litElems] at h; cases h
    exact ⟨g, Frz.refl F0.rel, rfl, fun m q h => by simp at h, fun x h => by simp at h, fun m x q j y h => by simp at h⟩
  | (k, v) :: ps, g, os, F0, (k', u) :: vs, i, xs, os', h, hl, hr => by
    simp only [litElems] at h
    split at h
    · rename_i hcond
      obtain ⟨c1, c2, c3⟩ := hcond
      split at h
      · rename_i ys os1 hys
        split at h
        · rename_i xs' os2 hxs
          cases h
          obtain ⟨e1, l, e2⟩ := hr 0 _ _ rfl rfl
          simp only at e1 e2
          have hcr := cells_rel e2 c3
          obtain ⟨g1, F1, hl1, hp1⟩ := frzs_rel F0.rel (vs := u.cells.toList) hys (by simpa using hcr.1.1.symm) (fun j c z hc hz => (hcr.1.2 j c z hc (by simpa using hz)).ev F0.tr)
          obtain ⟨g2, F2, hl2, hi2, hs2, hp2⟩ := litElems_rel (F0.trans F1) (vs := vs) hxs (by simpa using hl) (fun m p q hp hq => hr (m + 1) p q (by simpa using hp) (by simpa using hq))
          refine ⟨g2, F1.trans F2, by simp [hl2], fun m q hq => ?_, fun x hx => ?_, fun m x q j y hx hq hy => ?_⟩
          · cases m with
            | zero => simp at hq; subst hq; exact ⟨by simp; omega, by rw [hcr.1.1, c2]⟩
            | succ m =>
              obtain ⟨q1, q2⟩ := hi2 m q (by simpa using hq)
              exact ⟨by omega, q2⟩
          · rcases List.mem_cons.1 hx with rfl | hx
            · rw [hl1, c2]
            · exact hs2 x hx
          · cases m with
            | zero =>
              simp at hx hq
              subst hx; subst hq
              have hj : j < u.cells.size := by rw [hcr.1.1, ← hl1]; exact (List.getElem?_eq_some_iff.1 hy).1
              exact ⟨u.cells[j], Array.getElem?_eq_getElem hj, hcr.2 j _ (Array.getElem?_eq_getElem hj), (hp1 j y _ hy (by simpa using Array.getElem?_eq_getElem hj)).mono fun b o h => ⟨F2.imm b o h, rfl⟩⟩
            | succ m => exact hp2 m x q j y (by simpa using hx) (by simpa using hq) hy
        · cases h
      · cases h
    · cases h
  | [], g, os, F0, _ :: _, i, xs, os', h, hl, hr => by simp at hl
  | _ :: _, g, os, F0, [], i, xs, os', h, hl, hr => by simp at hl

theorem zeroT_run {t : TypeId} {z : AV} (h : zeroT P t = some z) : ∃ i v, P.info? t = some i ∧ i.zero = some v := by
  unfold zeroT at h
  split at h
  · rename_i i hi
    split at h
    · rename_i v hv; exact ⟨i, v, hi, hv⟩
    · cases h
  · cases h

theorem buildSlice_wp (hB : B ≤ w.heap.size) (R : Rel B w g s a) {t : TypeId} {n : Nat} {parts : Array (Nat × Operand)} (hop : o.op = .buildSlice t n parts) (h : stepO P H call cx o s = some r) (M : Meets B w g a K Q r) : o.wp P a w K Q := by
  unfold stepO at h
  rw [hop] at h
  simp only at h
  split at h
  · rename_i ps e d hps he hd
    split at h
    · rename_i z hz
      split at h
      · rename_i xs os1 hlit
        split at h
        · rename_i hcond
          obtain ⟨c1, c2, c3⟩ := hcond
          obtain ⟨i, zv, hi, hzv⟩ := zeroT_run hz
          have hsz : szT P e = i.size := by unfold szT; rw [hi]
          rw [hsz] at c2 c3 hlit
          obtain ⟨p1, p2⟩ := evps_rel R hps
          obtain ⟨g1, F1, hl1, hi1, hs1, hp1⟩ := litElems_rel (Frz.refl R.mem) (vs := parts.toList.map fun (i, x) => (i, a.eval x)) hlit (by simpa using p1) (fun m p q hp hq => by
            obtain ⟨x, hx, hev⟩ := p2 m p hp
            rw [List.getElem?_map, hx] at hq
            cases hq
            exact ⟨rfl, _, ev1_rel R hev⟩)
          have hn : n = (parts.toList.map fun (i, x) => (i, a.eval x)).length := by rw [← c1, hl1]
          have R1 : Rel B w g1 { s with os := os1 } a := F1.state R
          -- the new block
          have hblk : ∃ D, (Instr.buildSlice t n (parts.map fun (i, x) => (i, a.eval x))).run P w = .ok (.slice (some ⟨w.heap.size, 0, none⟩) n n) (w.alloc (.cells D e)) ∧ D.size = n * i.size ∧ Holds w g1.I D i.size xs := by
            have htl : (parts.map fun (i, x) => (i, a.eval x)).toList = parts.toList.map fun (i, x) => (i, a.eval x) := by simp
            have base : ∀ C : Array Value, C.size = n * i.size → ∃ D, Instr.fill (fun j => some (j * i.size, i.size)) C (parts.toList.map fun (i, x) => (i, a.eval x)) = some D ∧ D.size = n * i.size ∧ Holds w g1.I D i.size xs := by
              intro C hC
              obtain ⟨D, d1, d2, _, d4⟩ := fill_dense i.size (parts.toList.map fun (i, x) => (i, a.eval x)) 0 C hi1 (by rw [hC, hn]; simp)
              refine ⟨D, d1, d2.trans hC, hs1, fun m x j y hx hy => ?_⟩
              have hm : m < (parts.toList.map fun (i, x) => (i, a.eval x)).length := by rw [← hl1]; exact (List.getElem?_eq_some_iff.1 hx).1
              obtain ⟨u, q1, q2, q3⟩ := hp1 m x _ j y hx (List.getElem?_eq_getElem hm) hy
              have hj : j < i.size := by rw [← hs1 x (List.mem_of_getElem? hx)]; exact (List.getElem?_eq_some_iff.1 hy).1
              have := d4 m _ j (List.getElem?_eq_getElem hm) hj
              rw [Nat.zero_add] at this
              exact ⟨u, by rw [this]; exact q1, q2, q3⟩
            by_cases h0 : n * i.size = 0
            · obtain ⟨D, d1, d2, d3⟩ := base #[] (by simp [h0])
              have hn0 : n = 0 := by rcases Nat.mul_eq_zero.1 h0 with h | h; exact h; exact absurd h c2
              have hnil : parts.toList = [] := by rw [hn0] at hn; simpa using hn.symm
              have hpe : parts = #[] := by simpa using hnil
              subst hpe
              simp [Instr.fill] at d1
              subst hn0
              refine ⟨D, ?_, d2, d3⟩
              subst d1
              simp [Instr.buildSlice, run_underlying (elemT_und he), szT_run hi, Instr.fill, newRow]
              have hr0 : (Array.range 0).map (fun _ => (default : Value)) = #[] := by simp [Array.range]
              rw [hr0]
            · obtain ⟨D, d1, d2, d3⟩ := base ((Array.range (n * i.size)).map (zv.cells[· % zv.cells.size]!)) (by simp)
              exact ⟨D, run_buildSlice w t e n _ D i zv (elemT_und he) hi hzv (by omega) h0 (by rw [htl]; exact d1), d2, d3⟩
          obtain ⟨D, hrun, hDs, hDh⟩ := hblk
          have hexec : (execOp a.eval o).run P w = .ok (.value (.slice (some ⟨w.heap.size, 0, none⟩) n n)) (w.alloc (.cells D e)) := by
            unfold execOp; rw [hop]
            simp only [Sem.run_bind, hrun, Result.andThen_ok, Sem.run_pure]
          have hfr : frok (0, 0) D.size i.size := frok_zero _ c2
          split at h
          · cases h
            obtain ⟨R2, F2⟩ := grew_rel (Grew.alloc w (.cells D e)) R1
            have hown : Own B (w.alloc (.cells D e)) g1 (fun _ => False) (fun b => b = w.heap.size) i.size xs false (.slice (some ⟨w.heap.size, 0, none⟩) n n) :=
              .inr ⟨w.heap.size, D, e, (0, 0), n, by rw [c1], heap_alloc w _, hfr, hDs, by omega, hDh.mono (fun b o h => ⟨h, cell_heap ((Grew.alloc w (.cells D e)).old b (R1.mem.ilt b o h)) o⟩), fun o ho => absurd (R1.mem.ilt _ o ho) (Nat.lt_irrefl _), hB, by simp,
                fun y hy => absurd (R1.mem.lt y _ hy).2 (Nat.lt_irrefl _), rfl⟩
            obtain ⟨g', R', F'⟩ := newRow_rel (cx := cx) (d := d) R2 (F1.fr.trans F2) hown (fun y hy => hy.elim) (fun b hb hlt => by subst hb; omega)
            refine wp_value hexec (M _ _ g' ?_ F')
            rw [hd, hsz]; exact R'
          · cases h
            obtain ⟨g', R', F'⟩ := new_put (d := o.dst) hB R1 (Grew.refl w) rfl (el := e) hfr hDs (by omega) hDh
            refine wp_value hexec (M _ _ g' ?_ (F1.fr.trans F'))
            rw [hsz, ← c1]
            rw [← c1] at R'
            exact R'
        · cases h
      · cases h
    · cases h
  · cases h
end
end Go.Am
namespace Go.Am
variable [Env]
section
variable [Base]
variable {P : Program} {H : Hints} {B : Nat} {w w' w0 : World} {g g' g'' g0 : Gh} {os os' os'' : OS} {s : St} {a : Act}
variable {o : Oper} {K : Act → World → Prop} {Q : Exit → Act → World → Prop} {cx : Cx} {r : R1} {call : CallFn}

/-- the cells that are appended -/
structure News (P : Program) (w : World) (I : Nat → Nat → Prop) (size : Nat) (ys : List (List PV)) (c : Value) (news : List Value) : Prop where
  len : (Builtin.lenOf c).run P w = .ok ys.length w
  len' : ∀ w', (Builtin.lenOf c).run P w' = .ok ys.length w'
  first : ∀ w', w'.heap = w.heap → (Builtin.firstCells size ys.length c).run P w' = .ok news.toArray w'
  cnt : news.length = ys.length * size
  each : ∀ x ∈ ys, x.length = size
  holds : ∀ (i : Nat) (x : List PV) (j : Nat) (y : PV), ys[i]? = some x → x[j]? = some y → ∃ u, news[i * size + j]? = some u ∧ u.oneCell' = true ∧ PVR w I y u

theorem News.one {I : Nat → Nat → Prop} {size : Nat} {ys : List (List PV)} {c : Value} {news : List Value} (h : News P w I size ys c news) : ∀ v ∈ news, v.oneCell' = true := by
  intro v hv
  obtain ⟨m, hm⟩ := List.mem_iff_getElem?.1 hv
  have hlt : m < ys.length * size := by rw [← h.cnt]; exact (List.getElem?_eq_some_iff.1 hm).1
  have hpos : 0 < size := by
    rcases Nat.eq_zero_or_pos size with h0 | h0
    · subst h0; simp at hlt
    · exact h0
  have h1 : m / size < ys.length := Nat.div_lt_of_lt_mul (by rw [Nat.mul_comm]; exact hlt)
  have h2 : m % size < size := Nat.mod_lt _ hpos
  have hx := List.getElem?_eq_getElem h1
  have hxl := h.each _ (List.mem_of_getElem? hx)
  have hy : (ys[m / size])[m % size]? = some ((ys[m / size])[m % size]'(by rw [hxl]; exact h2)) := List.getElem?_eq_getElem _
  obtain ⟨u, e1, e2, _⟩ := h.holds _ _ _ _ hx hy
  rw [Nat.mul_comm, Nat.div_add_mod] at e1
  rw [hm] at e1; cases e1
  exact e2

theorem News.of_sl {I : Nat → Nat → Prop} {sz size : Nat} {ys : List (List PV)} {c : Value} (h : SlR w I sz ys c) (hs : sz = size ∨ ys = []) : ∃ news, News P w I size ys c news := by
  obtain ⟨ad, cap, rfl, hcap, hc⟩ := h
  have nil : ys = [] → ∃ news, News P w I size ys (.slice ad ys.length cap) news := by
    rintro rfl
    refine ⟨[], ⟨rfl, fun _ => rfl, fun w' _ => ?_, by simp, fun x hx => by simp at hx, fun i x j y hx => by simp at hx⟩⟩
    cases ad with
    | none => rfl
    | some ad => exact run_firstCells_some (P := P) w' size 0 ad 0 cap [] (by simp) (fun j v hj => by simp at hj)
  rcases hc with hc | ⟨h1, b, o, vs, rfl, h2⟩
  · exact nil hc
  by_cases hne : ys = []
  · exact nil hne
  have hs' : sz = size := hs.resolve_right hne
  subst hs'
  have key : ∀ m, m < ys.length * sz → ∃ (i : Nat) (x : List PV) (j : Nat) (y : PV), ys[i]? = some x ∧ x[j]? = some y ∧ i * sz + j = m := by
    intro m hm
    have hpos : 0 < sz := by
      rcases Nat.eq_zero_or_pos sz with h0 | h0
      · subst h0; simp at hm
      · exact h0
    have e1 : m / sz < ys.length := Nat.div_lt_of_lt_mul (by rw [Nat.mul_comm]; exact hm)
    have e2 : m % sz < sz := Nat.mod_lt _ hpos
    have hx := List.getElem?_eq_getElem e1
    have hxl := h1 _ (List.mem_of_getElem? hx)
    exact ⟨_, _, _, _, hx, List.getElem?_eq_getElem (by rw [hxl]; exact e2), by rw [Nat.mul_comm]; exact Nat.div_add_mod m sz⟩
  have getn : ∀ m, m < ys.length * sz → ((List.range (ys.length * sz)).map vs)[m]? = some (vs m) := fun m hm => by rw [List.getElem?_map, List.getElem?_range hm]; rfl
  refine ⟨(List.range (ys.length * sz)).map vs, ⟨rfl, fun _ => rfl, fun w' hw => ?_, by simp, h1, fun i x j y hx hy => ?_⟩⟩
  · refine run_firstCells_some (P := P) w' sz ys.length ⟨b, o, none⟩ ys.length cap _ (by simp) (fun m v hv => ?_)
    have hm : m < ys.length * sz := by have := (List.getElem?_eq_some_iff.1 hv).1; simpa using this
    rw [getn m hm] at hv; cases hv
    obtain ⟨i, x, j, y, e1, e2, rfl⟩ := key m hm
    rw [add_plain]
    have := (h2 i x j y e1 e2).1
    rw [← this]
    simp only [World.cell?, hw]
  · have hi := (List.getElem?_eq_some_iff.1 hx).1
    have hj : j < sz := by rw [← h1 x (List.mem_of_getElem? hx)]; exact (List.getElem?_eq_some_iff.1 hy).1
    obtain ⟨_, e2, e3⟩ := h2 i x j y hx hy
    exact ⟨_, getn _ (idx_lt hi hj), e2, e3⟩

theorem News.of_elems (R : RelO B w g os) {v : AV} {c : Value} {t sz size : Nat} {ys : List (List PV)} (h : elems os v = some (sz, ys)) (hv : SVR w g os t v c) (hs : sz = size ∨ ys = []) : ∃ news, News P w g.I size ys c news := by
  rcases elems_rel R h hv with h1 | ⟨b, rfl, rfl, rfl, rfl⟩
  · exact News.of_sl h1 hs
  · have hlen : (byteElems b.data.toList).length = b.size := by rw [byteElems_map]; simp
    have hfull : b.extract 0 b.size = b := by
      apply ByteArray.ext
      simp
    rcases Nat.eq_zero_or_pos b.size with h0 | h0
    · have hnil : byteElems b.data.toList = [] := List.eq_nil_of_length_eq_zero (by rw [hlen]; exact h0)
      refine ⟨[], ⟨by simp [Builtin.lenOf, hlen], fun _ => by simp [Builtin.lenOf, hlen], fun w' _ => ?_, by rw [hnil]; simp, fun x hx => by rw [hnil] at hx; simp at hx, fun i x j y hx => by rw [hnil] at hx; simp at hx⟩⟩
      have hd : b.data = #[] := by apply Array.eq_empty_of_size_eq_zero; exact h0
      simp [Builtin.firstCells, hlen, hfull, hd]
    · have hs1 : (1 : Nat) = size := by
        rcases hs with h | h
        · exact h
        · rw [h] at hlen; simp at hlen; omega
      subst hs1
      refine ⟨b.data.toList.map fun c => Value.int .u8 c.toNat, ⟨by simp [Builtin.lenOf, hlen], fun _ => by simp [Builtin.lenOf, hlen], fun w' _ => ?_, by simp [hlen], fun x hx => ?_, fun i x j y hx hy => ?_⟩⟩
      · simp only [Builtin.firstCells, hlen, hfull]
        simp
        apply Array.ext'
        simp
      · rw [byteElems_map] at hx
        obtain ⟨v, _, rfl⟩ := List.mem_map.1 hx; rfl
      · rw [byteElems_map, List.getElem?_map] at hx
        cases hv : (b.data.toList.map fun c => Value.int .u8 c.toNat)[i]? with
        | none => rw [hv] at hx; cases hx
        | some v =>
          rw [hv] at hx; cases hx
          cases j with
          | zero =>
            simp at hy; subst hy
            have hone : v.oneCell' = true := by
              rw [List.getElem?_map] at hv
              cases hb : b.data.toList[i]? with
              | none => rw [hb] at hv; cases hv
              | some c => rw [hb] at hv; cases hv; rfl
            exact ⟨v, by simpa using hv, hone, .at hone⟩
          | succ j => simp at hy

/-- the run of 'append', where there is room -/
theorem run_app_room {ts : Array TypeId} {t u e ty : TypeId} {d : TypeDesc} {i : TypeInfo} (h0 : ts[0]? = some t) (ht : P.underlying t = some (.slice e)) (h1 : ts[1]? = some u) (hu : P.underlying u = some d) (hd : ∀ k, d ≠ .int k) (hi : P.info? e = some i)
    {I : Nat → Nat → Prop} {ys : List (List PV)} {c : Value} {news : List Value} (hn : News P w I i.size ys c news) {base : Option Addr} {sLen sCap : Nat} (hroom : sLen + ys.length ≤ sCap) {w' : World}
    (hst : ∀ ad, base = some ad → (storeCells (ad.add (sLen * i.size)) news).run P w = .ok () w') (hnone : base = none → w' = w) :
    (Builtin.append_ ts ty #[.slice base sLen sCap, c]).run P w = .ok (.slice base (sLen + ys.length) sCap) w' := by
  have hz : ∀ (α : Type) (x y : α), (match d with | .int _ => x | _ => y) = y := by
    intro α x y; cases d <;> first | exact absurd rfl (hd _) | rfl
  have hz2 : (d matches .int _) = false := by cases d <;> first | exact absurd rfl (hd _) | rfl
  cases base with
  | none =>
    have := hnone rfl; subst this
    simp only [Builtin.append_, h0, h1]
    simp [run_underlying ht, run_underlying hu, szT_run hi, hn.len, hn.first w' rfl, hroom]
  | some ad =>
    have hst' := hst ad rfl
    simp only [Builtin.append_, h0, h1]
    simp [run_underlying ht, run_underlying hu, szT_run hi]
    cases d <;> first | exact absurd rfl (hd _) | simp [hn.len, hn.first w rfl, hroom, hst']

theorem run_app_grow {ts : Array TypeId} {t u e ty : TypeId} {d : TypeDesc} {i : TypeInfo} {z : Value} (h0 : ts[0]? = some t) (ht : P.underlying t = some (.slice e)) (h1 : ts[1]? = some u) (hu : P.underlying u = some d) (hd : ∀ k, d ≠ .int k) (hi : P.info? e = some i) (hz : i.zero = some z)
    {I : Nat → Nat → Prop} {ys : List (List PV)} {c : Value} {news : List Value} (hn : News P w I i.size ys c news) {base : Option Addr} {sLen sCap : Nat} (hg : sCap < sLen + ys.length) (hb : (sLen + ys.length) * i.bytes ≤ 2 ^ 47) (h63 : sLen + ys.length ≤ 2 ^ 47)
    {olds : List Value} (ho : ∀ w', w'.heap = w.heap → (Builtin.firstCells i.size sLen (.slice base sLen sCap)).run P w' = .ok olds.toArray w') :
    (Builtin.append_ ts ty #[.slice base sLen sCap, c]).run P w = .ok (.slice (some ⟨w.heap.size, 0, none⟩) (sLen + ys.length) (grownCap w (sLen + ys.length) sCap e))
      (w.drew.alloc (.cells (olds.toArray ++ news.toArray ++ Builtin.zeroCells z.cells (grownCap w (sLen + ys.length) sCap e - (sLen + ys.length))) e)) := by
  have hn1 : ¬ (sLen + ys.length ≤ sCap) := by omega
  have h63' : ¬ (9223372036854775807 < ((sLen : Int) + (ys.length : Int))) := by omega
  have hfit := nextslicecap_le hg
  have h48' : ¬ (281474976710656 < Builtin.nextslicecap (sLen + ys.length) sCap * i.bytes) := by
    have : Builtin.nextslicecap (sLen + ys.length) sCap * i.bytes ≤ 2 * (sLen + ys.length) * i.bytes := Nat.mul_le_mul_right _ hfit
    rw [Nat.mul_assoc] at this
    omega
  have hf := hn.first w.drew rfl
  have hfo := ho w.drew rfl
  simp only [Builtin.append_, h0, h1]
  simp [run_underlying ht, run_underlying hu, szT_run hi]
  cases d <;> first | exact absurd rfl (hd _) | (simp [hn.len, typeInfo, zeroValue, hi, hz, hn1, h63', h48', Question.forced, hf, hfo, newRow, grownCap]; congr 2; apply Array.ext'; simp [List.append_assoc])
end
end Go.Am
namespace Go.Am
variable [Env]
section
variable [Base]
variable {P : Program} {H : Hints} {B : Nat} {w w' w0 : World} {g g' g'' g0 : Gh} {os os' os'' : OS} {s : St} {a : Act}
variable {o : Oper} {K : Act → World → Prop} {Q : Exit → Act → World → Prop} {cx : Cx} {r : R1} {call : CallFn}

/-- a slot takes what a slot had, or what is new -/
theorem fresh_put' (R : Rel B w g s a) (F : Fr w0 g0 w g) {free : Loc → Prop} {d : Option Tmp} {N : Nat → Prop} {sz : Nat} {xs : List (List PV)} {sh : Bool} {c : Value} (hc : Own B w g free N sz xs sh c)
    (hfree : ∀ y, free y → ∃ t, y = .slot t ∧ ∀ u, s.slots.get t = some u → nf u = true) (hnew : ∀ b, N b → b < w0.heap.size → ∃ y, g0.bk y = some b) : ∃ g', Rel B w g' (put s d (.fresh sz xs)) (a.put d c) ∧ Fr w0 g0 w g' := by
  rcases hc with ⟨rfl, a', rfl⟩ | ⟨b, vs, el, fr, cap, rfl, h1, h2, h3, h4, h5, h6, h7, h8, h9, h10⟩
  · exact ⟨g, R.put fun t _ => .inl ⟨rfl, _, rfl⟩, F⟩
  · -- nobody owns it
    let g1 : Gh := { g with bk := fun y => if g.bk y = some b then none else g.bk y }
    have nob : ∀ j, g.bk (.obj j) ≠ some b := fun j hj => by
      obtain ⟨t, ht, _⟩ := hfree _ (h9 _ hj)
      cases ht
    have e1 : ∀ y b', g1.bk y = some b' → g.bk y = some b' ∧ b' ≠ b := by
      intro y b' h
      have h' : (if g.bk y = some b then none else g.bk y) = some b' := h
      split at h'
      · cases h'
      · rename_i hne; exact ⟨h', fun e => hne (by rw [← e]; exact h')⟩
    have e2 : ∀ j, g1.bk (.obj j) = g.bk (.obj j) := fun j => by
      show (if g.bk (.obj j) = some b then none else g.bk (.obj j)) = _
      rw [if_neg (nob j)]
    have RO : RelO B w g1 s.os := RelO.grew (Grew.refl w) R.mem e2 (fun _ _ h => h) (fun _ _ h => .inl h) (fun x y b' hx hy => R.mem.inj x y b' (e1 x b' hx).1 (e1 y b' hy).1) (fun x b' hx => R.mem.lt x b' (e1 x b' hx).1)
    have R1 : Rel B w g1 s a := Rel.ev' R RO ((Grew.refl w).tr R.mem e2 (fun _ _ h => h)) (fun t v hv hn b' hb => by
      have hne : b' ≠ b := by
        rintro rfl
        obtain ⟨t', ht, h⟩ := hfree _ (h9 _ hb)
        cases ht
        rw [h v hv] at hn; cases hn
      refine ⟨?_, rfl, fun _ h => h⟩
      show (if g.bk (.slot t) = some b then none else g.bk (.slot t)) = some b'
      rw [if_neg (by rw [hb]; simpa using hne)]; exact hb)
    have F1 : Fr w0 g0 w g1 := ⟨F.size, F.tape, F.os, F.output, F.imm, F.rest, fun x b' hx hb => F.own x b' (e1 x b' hx).1 hb, F.inew, F.watch⟩
    exact fresh_put (N := N) R1 F1 (sh := sh) (.inr ⟨b, vs, el, fr, cap, rfl, h1, h2, h3, h4, h5, h6, h7, h8, fun y hy => absurd rfl (e1 y b hy).2, h10⟩) hnew

/-- a block that no thing has was written -/
theorem wrote_free {b : Nat} (W : Wrote w w' b) (R : Rel B w g s a) {free : Loc → Prop} (h9 : ∀ y, g.bk y = some b → free y) (hfree : ∀ y, free y → ∃ t, y = .slot t ∧ ∀ u, s.slots.get t = some u → nf u = true)
    (hi : ∀ o, g.I b o → w'.cell? ⟨b, o, none⟩ = w.cell? ⟨b, o, none⟩) (hex : ∃ y, g.bk y = some b) : Rel B w' g s a ∧ Fr w g w' g := by
  have nob : ∀ j, g.bk (.obj j) ≠ some b := fun j hj => by
    obtain ⟨t, ht, _⟩ := hfree _ (h9 _ hj)
    cases ht
  have himm : ∀ b' o, g.I b' o → g.I b' o ∧ w'.cell? ⟨b', o, none⟩ = w.cell? ⟨b', o, none⟩ := fun b' o h => ⟨h, by
    by_cases e : b' = b
    · subst e; exact hi o h
    · exact cell_heap (W.other b' e) o⟩
  have hother : ∀ j bb, g.bk (.obj j) = some bb → w'.heap[bb]? = w.heap[bb]? := fun j bb hb => W.other bb (fun e => nob j (by rw [← e]; exact hb))
  have T : Tr some w g s.os w' g s.os := Tr.world (fun _ => rfl) himm (fun k bb hb vs el fr h => ⟨vs, by rw [hother k bb hb]; exact h, rfl⟩)
  have RO : RelO B w' g s.os := ⟨fun k x hx => (R.mem.obj k x hx).ev T rfl fun bb hb => ⟨hother k bb hb, fun _ h => h⟩, R.mem.dom, R.mem.inj, fun x bb hb => (by rw [W.size]; exact R.mem.lt x bb hb), fun bb x hx => (by rw [W.size]; exact R.mem.ilt bb x hx), fun v c hv => (R.mem.watch v c hv).ev T, R.mem.base.wrote W (by obtain ⟨y, hy⟩ := hex; exact (R.mem.lt y b hy).1)⟩
  refine ⟨Rel.ev' R RO T (fun t v hv hn bb hb => ⟨hb, W.other bb ?_, fun _ h => h⟩), ?_⟩
  · rintro rfl
    obtain ⟨t', ht, h⟩ := hfree _ (h9 _ hb)
    cases ht
    rw [h v hv] at hn; cases hn
  · refine ⟨by rw [W.size]; exact Nat.le_refl _, W.tape, W.os, W.output, himm, fun bb _ hn => W.other bb ?_, fun x bb hx _ => ⟨x, hx⟩, fun _ _ h _ => .inl h, fun _ _ h => h⟩
    rintro rfl
    obtain ⟨y, hy⟩ := hex
    exact hn y hy

/-- cells behind a row's own -/
theorem holds_app {I : Nat → Nat → Prop} {vs : Array Value} {sz : Nat} {xs ys : List (List PV)} {news : List Value} {c : Value} (h : Holds w I vs sz xs) (hn : News P w I sz ys c news) (hw : ∀ b o, I b o → w'.cell? ⟨b, o, none⟩ = w.cell? ⟨b, o, none⟩)
    {vs' : Array Value} (h1 : ∀ m, m < xs.length * sz → vs'[m]? = vs[m]?) (h2 : ∀ m, m < news.length → vs'[xs.length * sz + m]? = news[m]?) : Holds w' I vs' sz (xs ++ ys) := by
  refine ⟨fun x hx => ?_, fun i x j y hx hy => ?_⟩
  · rcases List.mem_append.1 hx with hx | hx
    · exact h.1 x hx
    · exact hn.each x hx
  · rcases Nat.lt_or_ge i xs.length with hi | hi
    · rw [List.getElem?_append_left hi] at hx
      obtain ⟨v, e1, e2, e3⟩ := h.2 i x j y hx hy
      have hj : j < sz := by rw [← h.1 x (List.mem_of_getElem? hx)]; exact (List.getElem?_eq_some_iff.1 hy).1
      exact ⟨v, by rw [h1 _ (idx_lt hi hj)]; exact e1, e2, e3.mono fun b o h => ⟨h, hw b o h⟩⟩
    · rw [List.getElem?_append_right hi] at hx
      obtain ⟨u, e1, e2, e3⟩ := hn.holds _ x j y hx hy
      have hlt := (List.getElem?_eq_some_iff.1 e1).1
      refine ⟨u, ?_, e2, e3.mono fun b o h => ⟨h, hw b o h⟩⟩
      have : i * sz + j = xs.length * sz + ((i - xs.length) * sz + j) := by
        have e : i * sz = xs.length * sz + (i - xs.length) * sz := by rw [← Nat.add_mul]; congr 1; omega
        omega
      rw [this, h2 _ hlt]; exact e1
end
end Go.Am
namespace Go.Am
variable [Env]
section
variable [Base]
variable {P : Program} {H : Hints} {B : Nat} {w w' w0 : World} {g g' g'' g0 : Gh} {os os' os'' : OS} {s : St} {a : Act}
variable {o : Oper} {K : Act → World → Prop} {Q : Exit → Act → World → Prop} {cx : Cx} {r : R1} {call : CallFn}

theorem zeroOK_run {e : TypeId} (h : zeroOK P e = true) : ∃ i z, P.info? e = some i ∧ i.zero = some z ∧ z.cells.size = i.size ∧ szT P e = i.size ∧ bytesT P e = i.bytes := by
  unfold zeroOK at h
  split at h
  · rename_i z hz
    simp only [Bool.and_eq_true, beq_iff_eq] at h
    unfold zeroT at hz
    split at hz
    · rename_i i hi
      split at hz
      · rename_i v hv
        cases hz
        have hs : szT P e = i.size := by unfold szT; rw [hi]
        refine ⟨i, v, hi, hv, ?_, hs, by unfold bytesT; rw [hi]⟩
        have := cells_own (ofValue_rel (v := v) (default : World) ⟨fun _ => none, fun _ _ => False, fun _ _ => False⟩ []) h.1
        rw [← this.1, h.2, hs]
      · cases hz
    · cases hz
  · cases h

/-- what the second operand must be -/
theorem isSeq_run {t : Option TypeId} (h : isSeq P t = true) : ∃ u d, t = some u ∧ P.underlying u = some d ∧ ∀ k, d ≠ .int k := by
  unfold isSeq at h
  split at h
  · rename_i u
    split at h
    · rename_i e hu; exact ⟨u, _, rfl, hu, fun k => by simp⟩
    · rename_i hu; exact ⟨u, _, rfl, hu, fun k => by simp⟩
    · cases h
  · cases h

theorem olds_rel {b n cap sz : Nat} {vs : Array Value} {el : TypeId} {fr : Nat × Nat} (hh : w.heap[b]? = some (.cells vs el fr)) (hle : n * sz ≤ vs.size) :
    ∀ w', w'.heap = w.heap → (Builtin.firstCells sz n (.slice (some ⟨b, 0, none⟩) n cap)).run P w' = .ok (vs.toList.take (n * sz)).toArray w' := by
  intro w' hw
  refine run_firstCells_some (P := P) w' sz n ⟨b, 0, none⟩ n cap _ (by simp; omega) (fun m v hv => ?_)
  rw [add_plain, Nat.zero_add]
  have hh' : w'.heap[b]? = some (.cells vs el fr) := by rw [hw]; exact hh
  rw [cell_of_heap hh']
  rw [List.getElem?_take] at hv
  split at hv
  · simpa using hv
  · cases hv

theorem grown_cells {olds news zs : List Value} {m : Nat} : (m < olds.length → (olds.toArray ++ news.toArray ++ zs.toArray)[m]? = olds[m]?) ∧ (m < news.length → (olds.toArray ++ news.toArray ++ zs.toArray)[olds.length + m]? = news[m]?) := by
  constructor
  · intro h
    simp only [List.append_toArray, List.getElem?_toArray, List.append_assoc]
    rw [List.getElem?_append_left h]
  · intro h
    simp only [List.append_toArray, List.getElem?_toArray, List.append_assoc]
    rw [List.getElem?_append_right (by omega), show olds.length + m - olds.length = m by omega, List.getElem?_append_left h]

/-- 'append' on what a slot alone has -/
theorem append_fresh (hB : B ≤ w.heap.size) (R : Rel B w g s a) {free : Loc → Prop} {d : Option Tmp} {sz : Nat} {xs ys : List (List PV)} {sh : Bool} {c1 c2 : Value} {ts : Array TypeId} {t e u ty : TypeId} {td : TypeDesc} {i : TypeInfo} {z : Value}
    (hc : Own B w g free (fun b => ∃ y, g.bk y = some b) sz xs sh c1) (hfree : ∀ y, free y → ∃ t, y = .slot t ∧ ∀ u, s.slots.get t = some u → nf u = true)
    (h0 : ts[0]? = some t) (ht : P.underlying t = some (.slice e)) (h1 : ts[1]? = some u) (hu : P.underlying u = some td) (hd : ∀ k, td ≠ .int k) (hi : P.info? e = some i) (hz : i.zero = some z) (hzs : z.cells.size = i.size) (hnz : i.size ≠ 0)
    {news : List Value} (hn : News P w g.I i.size ys c2 news) (hsz : sz = i.size ∨ sz = 0) (hne : ys ≠ []) (hb : (xs.length + ys.length) * i.bytes ≤ 2 ^ 47) (h47 : xs.length + ys.length ≤ 2 ^ 47) :
    ∃ c w' g', (Builtin.append_ ts ty #[c1, c2]).run P w = .ok c w' ∧ Rel B w' g' (put s d (.fresh i.size (xs ++ ys))) (a.put d c) ∧ Fr w g w' g' := by
  have hpos : 0 < ys.length := List.length_pos_iff.2 hne
  rcases hc with ⟨rfl, ad, rfl⟩ | ⟨b, vs, el, fr, cap, rfl, p1, p2, p3, p4, p5, p6, p7, p8, p9, p10⟩
  · have hrun := run_app_grow (P := P) (w := w) (ty := ty) h0 ht h1 hu hd hi hz hn (base := ad) (sLen := 0) (sCap := 0) (by omega) (by simpa using hb) (by simpa using h47) (olds := []) (fun w' _ => by
      cases ad with
      | none => rfl
      | some ad => exact run_firstCells_some (P := P) w' i.size 0 ad 0 0 [] (by simp) (fun j v hj => by simp at hj))
    have hge := grownCap_ge w (0 + ys.length) 0 e
    obtain ⟨g', R', F⟩ := new_put (d := d) hB R (Grew.drew w) rfl (el := e) (fr := (0, 0)) (sz := i.size) (cap := grownCap w (0 + ys.length) 0 e) (xs := [] ++ ys) (vs := ([] : List Value).toArray ++ news.toArray ++ Builtin.zeroCells z.cells (grownCap w (0 + ys.length) 0 e - (0 + ys.length)))
      (frok_zero _ hnz) (by
        have e1 : (ys.length + (grownCap w (0 + ys.length) 0 e - (0 + ys.length))) * i.size = grownCap w (0 + ys.length) 0 e * i.size := by congr 1; omega
        rw [Nat.add_mul] at e1
        simp [size_zeroCells, hzs, hn.cnt]
        simp at e1; exact e1) (by simp at hge ⊢; exact hge) (by
        refine holds_app (vs := #[]) (xs := []) ⟨fun x hx => by simp at hx, fun i x j y hx => by simp at hx⟩ hn (fun _ _ _ => rfl) (fun m hm => by simp at hm) (fun m hm => ?_)
        have := (grown_cells (olds := []) (news := news) (zs := (Builtin.zeroCells z.cells (grownCap w (0 + ys.length) 0 e - (0 + ys.length))).toList) (m := m)).2 hm
        simpa using this)
    exact ⟨_, _, g', hrun, by simpa using R', F⟩
  · have hszn : sz = i.size := by
      rcases hsz with h | h
      · exact h
      · exact absurd h p2.1
    subst hszn
    have hle : xs.length * i.size ≤ vs.size := by rw [p3]; exact Nat.mul_le_mul_right _ p4
    by_cases hroom : xs.length + ys.length ≤ cap
    · have hfit : xs.length * i.size + news.length ≤ vs.size := by
        rw [hn.cnt, ← Nat.add_mul, p3]; exact Nat.mul_le_mul_right _ hroom
      have hst := run_storeCells_own (P := P) b (0 + xs.length * i.size) el fr news 0 vs w p1 (fun j _ hj => p2.2 j (by omega)) (by omega) hn.one
      have hrun := run_app_room (P := P) (w := w) (ty := ty) h0 ht h1 hu hd hi hn (base := some ⟨b, 0, none⟩) (sLen := xs.length) (sCap := cap) hroom (fun ad had => by
        cases had; rw [add_plain]; exact hst) (fun h => by cases h)
      have W := wrote_setRow w b (setRange vs.toList (0 + xs.length * i.size + 0) news).toArray
      have hheap := setRow_heap w b vs (setRange vs.toList (0 + xs.length * i.size + 0) news).toArray el fr p1
      have hget : ∀ m, (setRange vs.toList (0 + xs.length * i.size + 0) news).toArray[m]? = if xs.length * i.size ≤ m ∧ m < xs.length * i.size + news.length then news[m - xs.length * i.size]? else vs[m]? := by
        intro m
        rw [List.getElem?_toArray, setRange_get _ _ _ _ (by simp; omega)]
        simp
      have himm : ∀ b' o, g.I b' o → (w.setRow b (setRange vs.toList (0 + xs.length * i.size + 0) news).toArray).cell? ⟨b', o, none⟩ = w.cell? ⟨b', o, none⟩ := by
        intro b' o ho
        by_cases e : b' = b
        · subst e
          have := (p6 o ho).2
          rw [cell_of_heap hheap, cell_of_heap p1, hget, if_neg (by omega)]
        · exact cell_heap (W.other b' e) o
      obtain ⟨R1, F1⟩ := wrote_free W R p9 hfree (fun o ho => himm b o ho) p10
      have hown : Own B (w.setRow b (setRange vs.toList (0 + xs.length * i.size + 0) news).toArray) g free (fun b => ∃ y, g.bk y = some b) i.size (xs ++ ys) sh (.slice (some ⟨b, 0, none⟩) (xs.length + ys.length) cap) := by
        refine .inr ⟨b, _, el, fr, cap, by rw [List.length_append], hheap, ?_, ?_, by rw [List.length_append]; exact hroom, ?_, fun o ho => ⟨(p6 o ho).1, ?_⟩, p7, by rw [W.size]; exact p8, p9, p10⟩
        · simpa [setRange_length] using p2
        · simpa [setRange_length] using p3
        · refine holds_app p5 hn himm (fun m hm => ?_) (fun m hm => ?_)
          · rw [hget, if_neg (by omega)]
          · rw [hget, if_pos (by omega), show xs.length * i.size + m - xs.length * i.size = m by omega]
        · have := (p6 o ho).2
          rw [List.length_append, Nat.add_mul]; omega
      obtain ⟨g', R', F'⟩ := fresh_put' (d := d) R1 F1 hown hfree (fun b hb _ => hb)
      exact ⟨_, _, g', hrun, R', F'⟩
    · have hrun := run_app_grow (P := P) (w := w) (ty := ty) h0 ht h1 hu hd hi hz hn (base := some ⟨b, 0, none⟩) (sLen := xs.length) (sCap := cap) (by omega) hb h47 (olds := vs.toList.take (xs.length * i.size)) (olds_rel p1 hle)
      have hge := grownCap_ge w (xs.length + ys.length) cap e
      have holen : (vs.toList.take (xs.length * i.size)).length = xs.length * i.size := by simp; omega
      obtain ⟨g', R', F⟩ := new_put (d := d) hB R (Grew.drew w) rfl (el := e) (fr := (0, 0)) (sz := i.size) (cap := grownCap w (xs.length + ys.length) cap e) (xs := xs ++ ys) (vs := (vs.toList.take (xs.length * i.size)).toArray ++ news.toArray ++ Builtin.zeroCells z.cells (grownCap w (xs.length + ys.length) cap e - (xs.length + ys.length)))
        (frok_zero _ hnz) (by
          have e1 : (xs.length + ys.length + (grownCap w (xs.length + ys.length) cap e - (xs.length + ys.length))) * i.size = grownCap w (xs.length + ys.length) cap e * i.size := by congr 1; omega
          rw [Nat.add_mul, Nat.add_mul] at e1
          rw [Array.size_append, Array.size_append, List.size_toArray, List.size_toArray, size_zeroCells, hzs, holen, hn.cnt]
          exact e1) (by rw [List.length_append]; exact hge) (by
          refine holds_app p5 hn (fun _ _ _ => rfl) (fun m hm => ?_) (fun m hm => ?_)
          · have := (grown_cells (olds := vs.toList.take (xs.length * i.size)) (news := news) (zs := (Builtin.zeroCells z.cells (grownCap w (xs.length + ys.length) cap e - (xs.length + ys.length))).toList) (m := m)).1 (by omega)
            rw [Array.toArray_toList] at this
            rw [this, List.getElem?_take, if_pos hm]; simp
          · have := (grown_cells (olds := vs.toList.take (xs.length * i.size)) (news := news) (zs := (Builtin.zeroCells z.cells (grownCap w (xs.length + ys.length) cap e - (xs.length + ys.length))).toList) (m := m)).2 hm
            rw [Array.toArray_toList, holen] at this
            exact this)
      exact ⟨_, _, g', hrun, by rw [List.length_append] at R'; exact R', F⟩
end
end Go.Am
namespace Go.Am
variable [Env]
section
variable [Base]
variable {P : Program} {H : Hints} {B : Nat} {w w' w0 : World} {g g' g'' g0 : Gh} {os os' os'' : OS} {s : St} {a : Act}
variable {o : Oper} {K : Act → World → Prop} {Q : Exit → Act → World → Prop} {cx : Cx} {r : R1} {call : CallFn}

/-- a row goes over to a new block -/
theorem row_moves (hB : B ≤ w.heap.size) (R : Rel B w g s a) {k sz sz' lo cap : Nat} {xs zs : List (List PV)} {sh : Bool} {w1 : World} (G1 : Grew w w1) (hs1 : w1.heap.size = w.heap.size) {vs' : Array Value} {el : TypeId}
    (hk : getObj s.os k = some (.row sz xs lo sh)) (hlt : xs.length < zs.length) (hpre : ∀ off len, off + len ≤ xs.length → (zs.drop off).take len = (xs.drop off).take len) (hnz : sz' ≠ 0) (hsz : sz = sz' ∨ sz = 0)
    (h3 : vs'.size = cap * sz') (h4 : zs.length ≤ cap) (h5 : Holds w g.I vs' sz' zs) :
    ∃ g', Rel B (w1.alloc (.cells vs' el)) g' { s with os := setObj s.os k (.row sz' zs lo sh) } a ∧ AVR (w1.alloc (.cells vs' el)) g' (setObj s.os k (.row sz' zs lo sh)) (.row k 0 zs.length) (.slice (some ⟨w.heap.size, 0, none⟩) zs.length cap) ∧ Fr w g (w1.alloc (.cells vs' el)) g' := by
  have G : Grew w (w1.alloc (.cells vs' el)) := G1.trans (Grew.alloc w1 _)
  have hh : (w1.alloc (.cells vs' el)).heap[w.heap.size]? = some (.cells vs' el (0, 0)) := by rw [← hs1]; exact heap_alloc w1 _
  obtain ⟨hlo, hrow⟩ := R.mem.obj k _ hk
  let g' : Gh := { bk := fun y => if y = .obj k then some w.heap.size else g.bk y, I := fun b o => g.I b o ∨ (g.bk (.obj k) = some b ∧ o < xs.length * sz), W := g.W }
  have e1 : g'.bk (.obj k) = some w.heap.size := by show (if _ then _ else _) = _; rw [if_pos rfl]
  have e2 : ∀ y, y ≠ .obj k → g'.bk y = g.bk y := fun y hy => by show (if _ then _ else _) = _; rw [if_neg hy]
  have hlt0 : ∀ x b, g.bk x = some b → b < w.heap.size := fun x b hb => (R.mem.lt x b hb).2
  have hImono : ∀ b o, g.I b o → g'.I b o ∧ (w1.alloc (.cells vs' el)).cell? ⟨b, o, none⟩ = w.cell? ⟨b, o, none⟩ := fun b o h => ⟨.inl h, cell_heap (G.old b (R.mem.ilt b o h)) o⟩
  have hIlt : ∀ b o, g'.I b o → b < w.heap.size := fun b o h => by
    rcases h with h | ⟨h, _⟩
    · exact R.mem.ilt b o h
    · exact hlt0 _ b h
  have hold : ∀ bb, g.bk (.obj k) = some bb → PVR (w1.alloc (.cells vs' el)) g'.I (.vals sz xs) (.slice (some ⟨bb, 0, none⟩) xs.length xs.length) := by
    intro bb hbb
    rcases hrow with ⟨h, _⟩ | ⟨b, vs, el0, fr, cap0, h1, h2, _, _, _, h6, _⟩
    · rw [h] at hbb; cases hbb
    · rw [hbb] at h1; cases h1
      refine pvr_of_holds (h6.mono hImono) (by rw [G.old bb (hlt0 _ bb hbb)]; exact h2) (Nat.le_refl _) (fun o ho => .inr ⟨hbb, ho⟩)
  have hnone : sz = 0 → xs = [] ∧ g.bk (.obj k) = none := by
    intro hz
    rcases hrow with ⟨h, h'⟩ | ⟨b, vs, el0, fr, cap0, h1, h2, h3, _⟩
    · exact ⟨h', h⟩
    · exact absurd hz h3.1
  have T : Tr some w g s.os (w1.alloc (.cells vs' el)) g' (setObj s.os k (.row sz' zs lo sh)) := by
    refine ⟨hImono, fun j j' x hx hj => ?_⟩
    cases hj
    by_cases e : j = k
    · subst e
      rw [hk] at hx; cases hx
      refine ⟨_, getObj_set_self hk, by omega, fun h => ?_, Nat.le_refl _, fun h => absurd h (by omega), fun bb hbb vs el0 fr hv => ⟨vs, by rw [G.old bb (hlt0 _ bb hbb)]; exact hv, rfl⟩, fun off len hl _ => .inr (hpre off len hl), .inr hold⟩
      rcases hsz with hsz | hsz
      · exact hsz.symm
      · obtain ⟨n1, n2⟩ := hnone hsz
        rcases h with h | h
        · exact absurd n1 h
        · exact absurd n2 h
    · refine ⟨x, by rw [getObj_set_ne e]; exact hx, ?_⟩
      rw [e2 _ (by simpa using e)]
      exact OEv.refl (fun bb hbb vs _ _ hv => ⟨vs, by rw [G.old bb (hlt0 _ bb hbb)]; exact hv, rfl⟩) x
  have HO : OR (w1.alloc (.cells vs' el)) g' (setObj s.os k (.row sz' zs lo sh)) k (.row sz' zs lo sh) :=
    ⟨by omega, .inr ⟨w.heap.size, vs', el, (0, 0), cap, e1, hh, frok_zero _ hnz, h3, h4, h5.mono hImono, fun o ho => absurd (hIlt _ o ho) (Nat.lt_irrefl _)⟩⟩
  have RO : RelO B (w1.alloc (.cells vs' el)) g' (setObj s.os k (.row sz' zs lo sh)) := by
    refine ⟨fun j x hx => ?_, fun j b hb => ?_, fun x y b hx hy => ?_, fun x b hx => ?_, fun b o ho => Nat.lt_of_lt_of_le (hIlt b o ho) G.size, fun v c hv => (R.mem.watch v c hv).ev T, R.mem.base.grew G⟩
    · by_cases e : j = k
      · subst e
        rw [getObj_set_self hk] at hx; cases hx
        exact HO
      · rw [getObj_set_ne e] at hx
        refine (R.mem.obj j x hx).ev T (e2 _ (by simpa using e)) fun bb hbb => ⟨G.old bb (hlt0 _ bb hbb), fun o ho => ?_⟩
        rcases ho with ho | ⟨h, _⟩
        · exact ho
        · have := R.mem.inj _ _ bb hbb h
          exact absurd (by simpa using this) e
    · by_cases e : j = k
      · subst e; exact ⟨_, getObj_set_self hk⟩
      · rw [e2 _ (by simpa using e)] at hb
        obtain ⟨x, hx⟩ := R.mem.dom j b hb
        exact ⟨x, by rw [getObj_set_ne e]; exact hx⟩
    · by_cases ex : x = .obj k
      · by_cases ey : y = .obj k
        · rw [ex, ey]
        · subst ex; rw [e1] at hx; cases hx; rw [e2 y ey] at hy; exact absurd (hlt0 y _ hy) (Nat.lt_irrefl _)
      · rw [e2 x ex] at hx
        by_cases ey : y = .obj k
        · subst ey; rw [e1] at hy; cases hy; exact absurd (hlt0 x _ hx) (Nat.lt_irrefl _)
        · rw [e2 y ey] at hy; exact R.mem.inj x y b hx hy
    · by_cases ex : x = .obj k
      · subst ex; rw [e1] at hx; cases hx; exact ⟨hB, by simp [hs1]⟩
      · rw [e2 x ex] at hx; exact ⟨(R.mem.lt x b hx).1, Nat.lt_of_lt_of_le (hlt0 x b hx) G.size⟩
  refine ⟨g', Rel.ev R RO T (fun t b hb => ⟨(e2 _ (by simp)).trans hb, G.old b (hlt0 _ b hb), fun o ho => ?_⟩), ?_, ?_⟩
  · rcases ho with ho | ⟨h, _⟩
    · exact ho
    · have := R.mem.inj _ _ b hb h
      cases this
  · exact .row (getObj_set_self hk) (by simp) h4 (fun _ _ => .inr ⟨w.heap.size, vs', el, (0, 0), e1, by simp, hh, by simpa using h3⟩) (.inr (.inr (.inl ⟨w.heap.size, e1, by simp⟩)))
  · refine ⟨G.size, G.tape, G.os, G.output, hImono, fun b hb _ => G.old b hb, fun x b hx hb => ?_, fun b o ho _ => ?_, fun _ _ h => h⟩
    · by_cases ex : x = .obj k
      · subst ex; rw [e1] at hx; cases hx; exact absurd hb (Nat.lt_irrefl _)
      · rw [e2 x ex] at hx; exact ⟨x, hx⟩
    · rcases ho with ho | ⟨h, _⟩
      · exact .inl ho
      · exact .inr ⟨_, h⟩

/-- 'append' on a row -/
theorem append_row (hB : B ≤ w.heap.size) (R : Rel B w g s a) {k sz lo : Nat} {xs ys : List (List PV)} {sh : Bool} {c1 c2 : Value} {ts : Array TypeId} {t e u ty : TypeId} {td : TypeDesc} {i : TypeInfo} {z : Value}
    (hk : getObj s.os k = some (.row sz xs lo sh)) (hv : AVR w g s.os (.row k 0 xs.length) c1)
    (h0 : ts[0]? = some t) (ht : P.underlying t = some (.slice e)) (h1 : ts[1]? = some u) (hu : P.underlying u = some td) (hd : ∀ k, td ≠ .int k) (hi : P.info? e = some i) (hz : i.zero = some z) (hzs : z.cells.size = i.size) (hnz : i.size ≠ 0)
    {news : List Value} (hn : News P w g.I i.size ys c2 news) (hsz : sz = i.size ∨ sz = 0) (hne : ys ≠ []) (hb : (xs.length + ys.length) * i.bytes ≤ 2 ^ 47) (h47 : xs.length + ys.length ≤ 2 ^ 47) :
    ∃ c w' g', (Builtin.append_ ts ty #[c1, c2]).run P w = .ok c w' ∧ Rel B w' g' { s with os := setObj s.os k (.row i.size (xs ++ ys) lo sh) } a ∧ AVR w' g' (setObj s.os k (.row i.size (xs ++ ys) lo sh)) (.row k 0 (xs.length + ys.length)) c ∧ Fr w g w' g' := by
  have hpos : 0 < ys.length := List.length_pos_iff.2 hne
  have hpre : ∀ off len, off + len ≤ xs.length → ((xs ++ ys).drop off).take len = (xs.drop off).take len := by
    intro off len hl
    rw [List.drop_append_of_le_length (by omega), List.take_append_of_le_length (by rw [List.length_drop]; omega)]
  have hlen : (xs ++ ys).length = xs.length + ys.length := List.length_append
  obtain ⟨hlo, hrow⟩ := R.mem.obj k _ hk
  cases hv with
  | @row _ _ _ sz1 lo1 cap xs1 sh1 ad hk' hl hcap hcur hc =>
    rw [hk] at hk'; cases hk'
    rcases hcur (by simp) (.inr rfl) with ⟨hbn, rfl⟩ | ⟨b, vs, el, fr, hbk, had, hh, hsize⟩
    · -- no block yet
      have hx : xs = [] := by
        rcases hrow with ⟨_, h⟩ | ⟨b, _, _, _, _, h, _⟩
        · exact h
        · rw [hbn] at h; cases h
      subst hx
      have hrun := run_app_grow (P := P) (w := w) (ty := ty) h0 ht h1 hu hd hi hz hn (base := ad) (sLen := 0) (sCap := 0) (by omega) (by simpa using hb) (by simpa using h47) (olds := []) (fun w' _ => by
        cases ad with
        | none => rfl
        | some ad => exact run_firstCells_some (P := P) w' i.size 0 ad 0 0 [] (by simp) (fun j v hj => by simp at hj))
      have hge := grownCap_ge w (0 + ys.length) 0 e
      obtain ⟨g', R', V', F⟩ := row_moves hB R (Grew.drew w) rfl (el := e) (cap := grownCap w (0 + ys.length) 0 e) (zs := [] ++ ys) (vs' := ([] : List Value).toArray ++ news.toArray ++ Builtin.zeroCells z.cells (grownCap w (0 + ys.length) 0 e - (0 + ys.length))) hk (by simpa using hpos) hpre hnz hsz
        (by
          have e1 : (ys.length + (grownCap w (0 + ys.length) 0 e - (0 + ys.length))) * i.size = grownCap w (0 + ys.length) 0 e * i.size := by congr 1; omega
          rw [Nat.add_mul] at e1
          simp [size_zeroCells, hzs, hn.cnt]
          simp at e1; exact e1) (by simp at hge ⊢; exact hge) (by
          refine holds_app (vs := #[]) (xs := []) ⟨fun x hx => by simp at hx, fun i x j y hx => by simp at hx⟩ hn (fun _ _ _ => rfl) (fun m hm => by simp at hm) (fun m hm => ?_)
          have := (grown_cells (olds := []) (news := news) (zs := (Builtin.zeroCells z.cells (grownCap w (0 + ys.length) 0 e - (0 + ys.length))).toList) (m := m)).2 hm
          simpa using this)
      exact ⟨_, _, g', hrun, R', by simpa using V', F⟩
    · rcases hrow with ⟨h, _⟩ | ⟨b', vs', el', fr', cap', q1, q2, q3, q4, q5, q6, q7⟩
      · rw [hbk] at h; cases h
      rw [hbk] at q1; cases q1
      rw [hh] at q2; cases q2
      have hszn : sz = i.size := by
        rcases hsz with h | h
        · exact h
        · exact absurd h q3.1
      subst hszn
      simp only [Nat.zero_mul] at had
      subst had
      have p3 : vs.size = cap * i.size := by simpa using hsize
      have hle : xs.length * i.size ≤ vs.size := by rw [p3]; exact Nat.mul_le_mul_right _ hcap
      by_cases hroom : xs.length + ys.length ≤ cap
      · have hfit : xs.length * i.size + news.length ≤ vs.size := by
          rw [hn.cnt, ← Nat.add_mul, p3]; exact Nat.mul_le_mul_right _ hroom
        have hst := run_storeCells_own (P := P) b (0 + xs.length * i.size) el fr news 0 vs w hh (fun j _ hj => q3.2 j (by omega)) (by omega) hn.one
        have hrun := run_app_room (P := P) (w := w) (ty := ty) h0 ht h1 hu hd hi hn (base := some ⟨b, 0, none⟩) (sLen := xs.length) (sCap := cap) hroom (fun ad had => by
          cases had; rw [add_plain]; exact hst) (fun h => by cases h)
        have W := wrote_setRow w b (setRange vs.toList (0 + xs.length * i.size + 0) news).toArray
        have hheap := setRow_heap w b vs (setRange vs.toList (0 + xs.length * i.size + 0) news).toArray el fr hh
        have hget : ∀ m, (setRange vs.toList (0 + xs.length * i.size + 0) news).toArray[m]? = if xs.length * i.size ≤ m ∧ m < xs.length * i.size + news.length then news[m - xs.length * i.size]? else vs[m]? := by
          intro m
          rw [List.getElem?_toArray, setRange_get _ _ _ _ (by simp; omega)]
          simp
        have hvsz : (setRange vs.toList (0 + xs.length * i.size + 0) news).toArray.size = vs.size := by simp [setRange_length]
        have himmb : ∀ o, g.I b o → (w.setRow b (setRange vs.toList (0 + xs.length * i.size + 0) news).toArray).cell? ⟨b, o, none⟩ = w.cell? ⟨b, o, none⟩ := by
          intro o ho
          have := (q7 o ho).2
          rw [cell_of_heap hheap, cell_of_heap hh, hget, if_neg (by omega)]
        have himm : ∀ b' o, g.I b' o → (w.setRow b (setRange vs.toList (0 + xs.length * i.size + 0) news).toArray).cell? ⟨b', o, none⟩ = w.cell? ⟨b', o, none⟩ := by
          intro b' o ho
          by_cases e : b' = b
          · subst e; exact himmb o ho
          · exact cell_heap (W.other b' e) o
        have T : Tr some w g s.os (w.setRow b (setRange vs.toList (0 + xs.length * i.size + 0) news).toArray) g (setObj s.os k (.row i.size (xs ++ ys) lo sh)) := by
          refine Tr.set W R.mem hk hbk himmb ⟨by omega, fun _ => rfl, Nat.le_refl _, fun _ => rfl, fun bb hbb vs0 el0 fr0 hv => ?_, fun off len hl _ => .inr (hpre off len hl), .inl rfl⟩
          cases hbb
          rw [hh] at hv; cases hv
          exact ⟨_, hheap, hvsz⟩
        have HO : OR (w.setRow b (setRange vs.toList (0 + xs.length * i.size + 0) news).toArray) g (setObj s.os k (.row i.size (xs ++ ys) lo sh)) k (.row i.size (xs ++ ys) lo sh) := by
          refine ⟨by omega, .inr ⟨b, _, el, fr, cap, hbk, hheap, by rw [hvsz]; exact q3, by rw [hvsz]; exact p3, by omega, ?_, fun o ho => ⟨(q7 o ho).1, ?_⟩⟩⟩
          · refine holds_app q6 hn himm (fun m hm => ?_) (fun m hm => ?_)
            · rw [hget, if_neg (by omega)]
            · rw [hget, if_pos (by omega), show xs.length * i.size + m - xs.length * i.size = m by omega]
          · have := (q7 o ho).2
            rw [hlen, Nat.add_mul]; omega
        obtain ⟨R', F'⟩ := Rel.set W R hk hbk T HO
        refine ⟨_, _, g, hrun, R', ?_, F'⟩
        exact .row (getObj_set_self hk) (by omega) hroom (fun _ _ => .inr ⟨b, _, el, fr, hbk, by simp, hheap, by rw [hvsz]; simpa using p3⟩) (.inr (.inr (.inl ⟨b, hbk, by simp⟩)))
      · have hrun := run_app_grow (P := P) (w := w) (ty := ty) h0 ht h1 hu hd hi hz hn (base := some ⟨b, 0, none⟩) (sLen := xs.length) (sCap := cap) (by omega) hb h47 (olds := vs.toList.take (xs.length * i.size)) (olds_rel hh hle)
        have hge := grownCap_ge w (xs.length + ys.length) cap e
        have holen : (vs.toList.take (xs.length * i.size)).length = xs.length * i.size := by simp; omega
        obtain ⟨g', R', V', F⟩ := row_moves hB R (Grew.drew w) rfl (el := e) (cap := grownCap w (xs.length + ys.length) cap e) (zs := xs ++ ys) (vs' := (vs.toList.take (xs.length * i.size)).toArray ++ news.toArray ++ Builtin.zeroCells z.cells (grownCap w (xs.length + ys.length) cap e - (xs.length + ys.length))) hk (by omega) hpre hnz hsz
          (by
            have e1 : (xs.length + ys.length + (grownCap w (xs.length + ys.length) cap e - (xs.length + ys.length))) * i.size = grownCap w (xs.length + ys.length) cap e * i.size := by congr 1; omega
            rw [Nat.add_mul, Nat.add_mul] at e1
            rw [Array.size_append, Array.size_append, List.size_toArray, List.size_toArray, size_zeroCells, hzs, holen, hn.cnt]
            exact e1) (by rw [hlen]; exact hge) (by
            refine holds_app q6 hn (fun _ _ _ => rfl) (fun m hm => ?_) (fun m hm => ?_)
            · have := (grown_cells (olds := vs.toList.take (xs.length * i.size)) (news := news) (zs := (Builtin.zeroCells z.cells (grownCap w (xs.length + ys.length) cap e - (xs.length + ys.length))).toList) (m := m)).1 (by omega)
              rw [Array.toArray_toList] at this
              rw [this, List.getElem?_take, if_pos hm]; simp
            · have := (grown_cells (olds := vs.toList.take (xs.length * i.size)) (news := news) (zs := (Builtin.zeroCells z.cells (grownCap w (xs.length + ys.length) cap e - (xs.length + ys.length))).toList) (m := m)).2 hm
              rw [Array.toArray_toList, holen] at this
              exact this)
        rw [hlen] at V'
        exact ⟨_, _, g', hrun, R', V', F⟩
end
end Go.Am
namespace Go.Am
variable [Env]
section
variable [Base]
variable {P : Program} {H : Hints} {B : Nat} {w w' w0 : World} {g g' g'' g0 : Gh} {os os' os'' : OS} {s : St} {a : Act}
variable {o : Oper} {K : Act → World → Prop} {Q : Exit → Act → World → Prop} {cx : Cx} {r : R1} {call : CallFn}

/-- nothing appended: the slice itself -/
theorem run_app_nil {ts : Array TypeId} {t u e ty : TypeId} {d : TypeDesc} {i : TypeInfo} (h0 : ts[0]? = some t) (ht : P.underlying t = some (.slice e)) (h1 : ts[1]? = some u) (hu : P.underlying u = some d) (hd : ∀ k, d ≠ .int k) (hi : P.info? e = some i)
    {I : Nat → Nat → Prop} {c : Value} {news : List Value} (hn : News P w I i.size [] c news) {base : Option Addr} {sLen sCap : Nat} (hroom : sLen ≤ sCap) : (Builtin.append_ ts ty #[.slice base sLen sCap, c]).run P w = .ok (.slice base sLen sCap) w := by
  have hnil : news = [] := List.eq_nil_of_length_eq_zero (by rw [hn.cnt]; simp)
  subst hnil
  have := run_app_room (P := P) (w := w) (ty := ty) h0 ht h1 hu hd hi hn (base := base) (sLen := sLen) (sCap := sCap) (by simpa using hroom) (w' := w) (fun ad _ => rfl) (fun _ => rfl)
  simpa using this

theorem append_wp (hB : B ≤ w.heap.size) (R : Rel B w g s a) {args : Array Operand} {ts : Array TypeId} (hop : o.op = .call { callee := .builtin .append, args := args, argTypes := ts }) (h : stepO P H call cx o s = some r) (M : Meets B w g a K Q r) : o.wp P a w K Q := by
  unfold stepO at h
  rw [hop] at h
  simp only at h
  split at h
  · rename_i x y t hargs hts hseq
    split at h
    · rename_i e va vb he hx hy
      split at h
      · rename_i s' happ
        cases h
        obtain ⟨u, td, hu1, hu2, hu3⟩ := isSeq_run hseq
        have ht := elemT_und he
        have hae : args.map a.eval = #[a.eval x, a.eval y] := by
          apply Array.ext'
          simp [hargs]
        have goal : ∀ c w', (Builtin.append_ ts o.type #[a.eval x, a.eval y]).run P w = .ok c w' → (execOp a.eval o).run P w = .ok (.value c) w' := by
          intro c w' hr
          rw [exec_builtin hop, hae]
          simp only [builtin, Sem.run_bind, hr, Result.andThen_ok, Sem.run_pure]
        unfold appendA at happ
        split at happ
        · rename_i sz' ys hel
          split at happ
          · cases happ
          rename_i hez
          split at happ
          · rename_i hemp
            have hys : ys = [] := by simpa using hemp
            subst hys
            -- (the element's size need not be known)
            obtain ⟨i, hi, _⟩ := szT_of hez
            obtain ⟨news, hn⟩ := News.of_elems (P := P) (size := i.size) R.mem hel (ev1_rel R hy) (.inr rfl)
            split at happ
            · rename_i k off len
              cases happ
              have hv := (ev1_rel R hx).avr rfl
              have hs : ∃ ad cap, a.eval x = .slice ad len cap ∧ len ≤ cap := by
                revert hv
                generalize a.eval x = c
                intro hv
                cases hv with | row _ _ hcap => exact ⟨_, _, rfl, hcap⟩
              obtain ⟨ad, cap, hs, hcap⟩ := hs
              have hrun := run_app_nil (P := P) (w := w) (ty := o.type) hts ht hu1 hu2 hu3 hi hn (base := ad) hcap
              refine wp_value (goal _ _ (by rw [hs]; exact hrun)) (M _ _ g (R.put fun t _ => SVR.of t ?_) (Fr.refl w g))
              rw [← hs]; exact hv
            · rename_i sz xs
              cases happ
              have ho := ev1_fresh R hx
              obtain ⟨ad, n, m, hs, hcap⟩ : ∃ ad n m, a.eval x = .slice ad n m ∧ n ≤ m := by
                rcases ho with ⟨_, ad, h⟩ | ⟨b, _, _, _, cap, h, _, _, _, hle, _⟩
                · exact ⟨_, _, _, h, Nat.le_refl _⟩
                · exact ⟨_, _, _, h, hle⟩
              have hrun := run_app_nil (P := P) (w := w) (ty := o.type) hts ht hu1 hu2 hu3 hi hn (base := ad) hcap
              obtain ⟨g', R', F'⟩ := fresh_put' (d := o.dst) (took_rel R x (.fresh sz xs)) (Fr.refl w g) ho (took_hfree rfl) (fun b hb _ => hb)
              refine wp_value (goal _ _ (by rw [hs]; exact hrun)) (M _ _ g' ?_ F')
              rw [← hs]; exact R'
            · cases happ
          · rename_i hne
            have hne' : ys ≠ [] := by simpa using hne
            split at happ
            · rename_i hcond
              obtain ⟨z1, z2, z3⟩ := hcond
              obtain ⟨i, z, hi, hz, hzs, hsz, hby⟩ := zeroOK_run z1
              rw [hsz] at z2 z3
              obtain ⟨news, hn⟩ := News.of_elems (P := P) (size := i.size) R.mem hel (ev1_rel R hy) (.inl z3)
              split at happ
              · rename_i k off len
                split at happ
                · rename_i sz xs lo sh hk
                  split at happ
                  · rename_i hc
                    obtain ⟨q1, q2, q3, q4, q5⟩ := hc
                    cases happ
                    subst q1 q2
                    rw [hsz] at q3
                    rw [hby] at q4
                    have hv := (ev1_rel R hx).avr rfl
                    obtain ⟨c, w', g', hr, R', V', F'⟩ := append_row (P := P) (ty := o.type) hB R hk hv hts ht hu1 hu2 hu3 hi hz hzs z2 hn q3 hne' q4 q5
                    refine wp_value (goal _ _ hr) (M _ _ g' ?_ F')
                    rw [hsz]
                    exact R'.put fun t _ => SVR.of t V'
                  · cases happ
                · cases happ
              · rename_i sz xs
                split at happ
                · rename_i hc
                  obtain ⟨q3, q4, q5⟩ := hc
                  cases happ
                  rw [hsz] at q3
                  rw [hby] at q4
                  have ho := ev1_fresh R hx
                  obtain ⟨c, w', g', hr, R', F'⟩ := append_fresh (P := P) (ty := o.type) (d := o.dst) hB (took_rel R x (.fresh sz xs)) ho (took_hfree rfl) hts ht hu1 hu2 hu3 hi hz hzs z2 hn q3 hne' q4 q5
                  refine wp_value (goal _ _ hr) (M _ _ g' ?_ F')
                  rw [hsz]; exact R'
                · cases happ
              · cases happ
            · cases happ
        · cases happ
      · cases h
    · cases h
  · cases h

/-- a string's iterator goes on -/
theorem next_wp (R : Rel B w g s a) {it : Operand} (hop : o.op = .next it true) (h : stepO P H call cx o s = some r) (M : Meets B w g a K Q r) : o.wp P a w K Q := by
  unfold stepO at h
  rw [hop] at h
  simp only at h
  split at h
  · rename_i k hit
    split at h
    · rename_i b pos hk
      have hv := (ev1_rel R hit).avr rfl
      have hp : ∃ bb, a.eval it = .pointer (some ⟨bb, 0, none⟩) ∧ g.bk (.obj k) = some bb := by
        revert hv
        generalize a.eval it = c
        intro hv
        cases hv with | ptr _ hb => exact ⟨_, rfl, hb⟩
      obtain ⟨bb, he, hb⟩ := hp
      obtain ⟨bb', hb', hh⟩ := R.mem.obj k _ hk
      rw [hb] at hb'; cases hb'
      split at h
      · rename_i hlt
        cases h
        have hrun := Go.Lib.run_next_any_at (P := P) w bb b pos o.type hh hlt
        have W : Wrote w (w.iterAt bb b (pos + (Utf8.decode b pos).2)) bb := ⟨Go.Lib.iterAt_size w bb b _, rfl, rfl, rfl, fun b' h => Go.Lib.iterAt_other w bb b' b _ h⟩
        have hcell : ∀ x, (w.iterAt bb b (pos + (Utf8.decode b pos).2)).cell? ⟨bb, x, none⟩ = w.cell? ⟨bb, x, none⟩ := fun x => by
          simp [World.cell?, hh, Go.Lib.iterAt_heap w bb b pos _ hh]
        have T : Tr some w g s.os (w.iterAt bb b (pos + (Utf8.decode b pos).2)) g (setObj s.os k (.iter b (pos + (Utf8.decode b pos).2))) := Tr.set W R.mem hk hb (fun x _ => hcell x) (by exact rfl)
        obtain ⟨R', F'⟩ := Rel.set W R hk hb T ⟨bb, hb, Go.Lib.iterAt_heap w bb b pos _ hh⟩
        refine wp_value (c := .tuple #[.bool true, .int .i64 pos, .int .i32 (Utf8.decode b pos).1]) (w' := w.iterAt bb b (pos + (Utf8.decode b pos).2)) ?_ (M _ _ g (R'.put fun t _ => SVR.of t ?_) F')
        · unfold execOp; rw [hop]
          simp only [he, Sem.run_bind, hrun, Result.andThen_ok, Sem.run_pure]
        · refine .tup rfl fun j c v hc hv => ?_
          match j with
          | 0 => simp at hc hv; subst hc; subst hv; exact .p (.at rfl)
          | 1 => simp at hc hv; subst hc; subst hv; exact .p (.at rfl)
          | 2 => simp at hc hv; subst hc; subst hv; exact .p (.at rfl)
          | j + 3 => simp at hc
      · rename_i hlt
        cases h
        have hrun := Go.Lib.run_next_end_at (P := P) w bb b pos o.type hh hlt
        refine wp_value (c := .tuple #[.bool false]) (w' := w) ?_ (M _ _ g (R.put fun t _ => SVR.of t ?_) (Fr.refl w g))
        · unfold execOp; rw [hop]
          simp only [he, Sem.run_bind, hrun, Result.andThen_ok, Sem.run_pure]
        · refine .tup rfl fun j c v hc hv => ?_
          match j with
          | 0 => simp at hc hv; subst hc; subst hv; exact .p (.at rfl)
          | j + 1 => simp at hc
    · cases h
  · cases h

theorem defer_wp (R : Rel B w g s a) {c : Call} (hop : o.op = .defer c) (h : stepO P H call cx o s = some r) (M : Meets B w g a K Q r) : o.wp P a w K Q := by
  unfold stepO at h
  rw [hop] at h
  simp only at h
  split at h
  · rename_i f hcal
    split at h
    · rename_i fid cap av hf hav
      cases h
      have hv := (ev1_rel R hf).avr rfl
      have hs : ∃ vs, a.eval f = .func (.func fid) #[] vs ∧ AVRs w g s.os cap vs := by
        revert hv
        generalize a.eval f = y
        intro hv
        cases hv with | fn hs hv => exact ⟨_, rfl, hs, hv⟩
      obtain ⟨vs, he, hvs⟩ := hs
      have hargs := evs_cps R hav
      have hexec : (execOp a.eval o).run P w = .ok (.defer { target := .fn (.func fid) vs, args := c.args.map a.eval }) w := by
        unfold execOp; rw [hop]
        simp only [resolve, hcal, he, Deferred.ofValue, Sem.run_bind, Sem.run_pure, Result.andThen_ok]
        simp
      have R' : Rel B w g { s with dfr := (.fn fid cap, cps av) :: s.dfr } { a with defers := { target := .fn (.func fid) vs, args := c.args.map a.eval } :: a.defers } := by
        refine ⟨R.mem, R.size, R.slots, by simp [R.dlen], fun j x d h1 h2 => ?_⟩
        cases j with
        | zero =>
          simp at h1 h2
          subst h1; subst h2
          refine ⟨fid, cap, vs, rfl, rfl, hvs, ?_⟩
          have e : (c.args.toList.map a.eval).toArray = c.args.map a.eval := by apply Array.ext'; simp
          rw [← e]; exact hargs
        | succ j => exact R.dfr j x d (by simpa using h1) (by simpa using h2)
      exact wp_defer' hexec (M _ _ g (R'.put fun t _ => AVR.undef) (Fr.refl w g))
    · cases h
  · cases h
end
end Go.Am
namespace Go.Am
variable [Env]
section
variable [Base]
variable {P : Program} {H : Hints} {B : Nat} {w w' w0 : World} {g g' g'' g0 : Gh} {os os' os'' : OS} {s : St} {a : Act}
variable {o : Oper} {K : Act → World → Prop} {Q : Exit → Act → World → Prop} {cx : Cx} {r : R1} {call : CallFn}

theorem ba_eq {a b : ByteArray} (h : (a == b) = true) : a = b := by
  cases a with | mk x => cases b with | mk y =>
    have : (x == y) = true := h
    simp at this; rw [this]
theorem ba_refl (a : ByteArray) : (a == a) = true := by
  cases a with | mk x => show (x == x) = true; simp

theorem upd_rel {kind : TypeDesc} {k : Value} (hk : (∃ j, kind = .int j ∧ ∃ i n, k = .int i n) ∨ (kind = .string ∧ ∃ s, k = .string s)) (v : AV) : ∀ (es : List (PV × AV)) (mes : List MapEntry) (i : Nat) (r : Option AV), findKey k es = some r →
    mes.length = es.length → (∀ (j : Nat) (e : PV × AV) (m : MapEntry), es[j]? = some e → mes[j]? = some m → PVR w g.I e.1 m.key) →
    (r = none → Instr.findNow kind k mes i = some none ∧ updKey k v es = es ++ [(.at k, v)]) ∧
    (∀ x, r = some x → ∃ m c e, mes[m]? = some e ∧ Instr.findNow kind k mes i = some (some (i + m, c)) ∧ updKey k v es = es.set m (.at k, v) ∧ Instr.sameBits 10000 e.key k = true)
  | [], [], i, r, h, _, _ => by cases h; exact ⟨fun _ => ⟨rfl, rfl⟩, fun x h => by cases h⟩
  | (p, u) :: es, m :: mes, i, r, h, hl, hr => by
    have hp := hr 0 _ _ rfl rfl
    cases p with
    | «at» j =>
      cases hp with
      | «at» _ =>
        simp only [findKey] at h
        have hs : ∀ b, sameK k m.key = some b → Instr.sameNow kind k m.key = some b ∧ (b = true → Instr.sameBits 10000 m.key k = true) := by
          intro b hb
          rcases hk with ⟨kj, rfl, ki, n, rfl⟩ | ⟨rfl, s, rfl⟩
          · unfold sameK at hb
            split at hb
            · rename_i j' a c' d e1 e2
              cases e1
              rw [e2]
              split at hb
              · rename_i hjk
                subst hjk
                cases hb
                refine ⟨by simp [Instr.sameNow], fun hab => ?_⟩
                have : n = d := by simpa using hab
                subst this
                simp [Instr.sameBits]
              · cases hb
            · rename_i h1 _; cases h1
            · cases hb
          · unfold sameK at hb
            split at hb
            · rename_i h1 _; cases h1
            · rename_i a c' e1 e2
              cases e1
              rw [e2]
              cases hb
              refine ⟨by simp [Instr.sameNow], fun hab => ?_⟩
              have : s = c' := ba_eq hab
              subst this
              show (s == s) = true
              exact ba_refl s
            · cases hb
        split at h
        · rename_i hb
          cases h
          obtain ⟨h1, h2⟩ := hs _ hb
          refine ⟨fun h => (by cases h), fun x _ => ⟨0, m.val, m, rfl, by simp [Instr.findNow, h1], by simp [updKey, hb], h2 rfl⟩⟩
        · rename_i hb
          obtain ⟨h1, _⟩ := hs _ hb
          obtain ⟨i1, i2⟩ := upd_rel hk v es mes (i + 1) r h (by simpa using hl) (fun j e m' he hm => hr (j + 1) e m' (by simpa using he) (by simpa using hm))
          refine ⟨fun hn => ?_, fun x hx => ?_⟩
          · obtain ⟨q1, q2⟩ := i1 hn
            exact ⟨by simp [Instr.findNow, h1, q1], by simp [updKey, hb, q2]⟩
          · obtain ⟨m', c, e, q1, q2, q3, q4⟩ := i2 x hx
            refine ⟨m' + 1, c, e, by simpa using q1, ?_, by simp [updKey, hb, q3], q4⟩
            simp only [Instr.findNow, h1]
            rw [q2]
            congr 3
            omega
        · cases h
    | _ => simp [findKey] at h
  | [], _ :: _, _, _, _, hl, _ => by simp at hl
  | _ :: _, [], _, _, _, hl, _ => by simp at hl

theorem mapUpdate_wp (R : Rel B w g s a) {t : TypeId} {mo ko vo : Operand} (hop : o.op = .mapUpdate t mo ko vo) (h : stepO P H call cx o s = some r) (M : Meets B w g a K Q r) : o.wp P a w K Q := by
  unfold stepO at h
  rw [hop] at h
  simp only at h
  split at h
  · rename_i i k v hm hk hv
    split at h
    · rename_i es kt et hes hu
      split at h
      · rename_i fr hf
        split at h
        · rename_i hst
          cases h
          have hmr := (ev1_rel R hm).avr rfl
          have hmb : ∃ b, a.eval mo = .map (some b) ∧ g.bk (.obj i) = some b := by
            revert hmr
            generalize a.eval mo = c
            intro hmr
            cases hmr with | mp _ hb => exact ⟨_, rfl, hb⟩
          obtain ⟨b, hme, hb⟩ := hmb
          have hke : a.eval ko = k := by
            have := (ev1_rel R hk).avr rfl
            revert this
            generalize a.eval ko = c
            intro this
            cases this with | p hp => cases hp with | «at» _ => rfl
          have hvr := (ev1_rel R hv).cp
          obtain ⟨b', mes, clk, h1, h2, h3, h4, h5⟩ := R.mem.obj i _ hes
          rw [hb] at h1; cases h1
          obtain ⟨hck, -⟩ := findK_rel (P := P) (w := w) (g := g) (os := s.os) (kt := kt) hf h3 h4
          have hobj : (Go.getObj b).run P w = .ok (.map mes clk) w := by simp [Go.getObj, Sem.run, h2]
          have hkone : k.oneCell' = true := by
            unfold findK at hf
            split at hf
            · rfl
            · rfl
            · cases hf
          have hkind : ∃ kind, P.underlying kt = some kind ∧ ((∃ j, kind = .int j ∧ ∃ i n, k = .int i n) ∨ (kind = .string ∧ ∃ s, k = .string s)) ∧ findKey k es = some fr := by
            unfold findK at hf
            split at hf
            · rename_i hkt; exact ⟨_, hkt, .inl ⟨_, rfl, _, _, rfl⟩, hf⟩
            · rename_i hkt; exact ⟨_, hkt, .inr ⟨rfl, _, rfl⟩, hf⟩
            · cases hf
          obtain ⟨kind, hku, hkk, hfk⟩ := hkind
          obtain ⟨u1, u2⟩ := upd_rel (w := w) (g := g) hkk (cp v) es mes.toList 0 fr hfk (by simpa using h3) (fun j e m he hm => (h4 j e m he (by simpa using hm)).1)
          -- the new entries
          have fin : ∀ (mes' : Array MapEntry) (clk' : Nat), (Instr.mapUpdate t (a.eval mo) (a.eval ko) (a.eval vo)).run P w = .ok () { w with heap := w.heap.setIfInBounds b (.map mes' clk') } →
              mes'.size = (updKey k (cp v) es).length → (∀ (j : Nat) (e : PV × AV) (m : MapEntry), (updKey k (cp v) es)[j]? = some e → mes'[j]? = some m → PVR w g.I e.1 m.key ∧ AVR w g s.os e.2 m.val) → o.wp P a w K Q := by
            intro mes' clk' hrun hsz hent
            have hbl : b < w.heap.size := (R.mem.lt _ b hb).2
            have W : Wrote w { w with heap := w.heap.setIfInBounds b (.map mes' clk') } b := ⟨by simp, rfl, rfl, rfl, fun b' hne => by simp [Array.getElem?_setIfInBounds_ne (Ne.symm hne)]⟩
            have hh : ({ w with heap := w.heap.setIfInBounds b (.map mes' clk') } : World).heap[b]? = some (.map mes' clk') := by simp [hbl]
            have T : Tr some w g s.os { w with heap := w.heap.setIfInBounds b (.map mes' clk') } g (setObj s.os i (.map (updKey k (cp v) es))) := Tr.set W R.mem hes hb (fun o ho => absurd ho (h5 o)) (by exact rfl)
            obtain ⟨R', F'⟩ := Rel.set W R hes hb T ⟨b, mes', clk', hb, hh, hsz, fun j e m he hm => ⟨(hent j e m he hm).1.mono T.imm, (hent j e m he hm).2.ev T⟩, h5⟩
            refine wp_skip' (w' := { w with heap := w.heap.setIfInBounds b (.map mes' clk') }) ?_ (M _ _ g (R'.put fun t _ => AVR.undef) F')
            unfold execOp; rw [hop]
            simp only [Sem.run_bind, hrun, Result.andThen_ok, Sem.run_pure]
          cases fr with
          | none =>
            obtain ⟨q1, q2⟩ := u1 rfl
            refine fin (mes.push { key := k, val := a.eval vo, born := clk }) (clk + 1) ?_ (by rw [q2]; simp [h3]) (fun j e m he hm => ?_)
            · simp only [Instr.mapUpdate, hme, hke, Sem.run_bind, run_underlying hu, Result.andThen_ok, hobj, hck false]
              simp [Instr.findKey, run_underlying hku, q1, Go.setObj, Sem.run, h2]
            · rw [q2] at he
              rcases Nat.lt_or_ge j es.length with hj | hj
              · rw [List.getElem?_append_left hj] at he
                rw [Array.getElem?_push, if_neg (by omega)] at hm
                exact h4 j e m he hm
              · rw [List.getElem?_append_right hj] at he
                have hj0 : j = es.length := by
                  have := (List.getElem?_eq_some_iff.1 he).1
                  simp at this; omega
                subst hj0
                simp at he; subst he
                rw [Array.getElem?_push, if_pos (by omega)] at hm
                cases hm
                exact ⟨.at hkone, hvr⟩
          | some x =>
            obtain ⟨m, c, e, q1, q2, q3, q4⟩ := u2 x rfl
            have q1' : mes[m]? = some e := by simpa using q1
            have hml : m < mes.size := (Array.getElem?_eq_some_iff.1 q1').1
            refine fin (mes.modify m fun e => { e with key := k, val := a.eval vo }) clk ?_ (by rw [q3]; simp [h3]) (fun j e' m' he hm => ?_)
            · simp only [Instr.mapUpdate, hme, hke, Sem.run_bind, run_underlying hu, Result.andThen_ok, hobj, hck false]
              simp [Instr.findKey, run_underlying hku, q2, q1', Instr.keyThatStays, q4, Go.setObj, Sem.run, h2]
            · rw [q3] at he
              rw [Array.getElem?_modify] at hm
              rcases list_set_get he with ⟨rfl, rfl, _⟩ | ⟨hne, he⟩
              · rw [if_pos rfl, q1'] at hm
                cases hm
                exact ⟨.at hkone, hvr⟩
              · rw [if_neg (Ne.symm hne)] at hm
                exact h4 j e' m' he hm
        · cases h
      · cases h
    · cases h
  · cases h
end
end Go.Am
