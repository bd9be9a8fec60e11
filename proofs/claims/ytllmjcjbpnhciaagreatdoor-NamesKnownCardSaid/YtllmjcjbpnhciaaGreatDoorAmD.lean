/- Regions that draw their order are as the machine says, whatever is drawn; ends of calls that are told by hand. Conditions: each theorem bears its own. -/
import Derived.Test.YtllmjcjbpnhciaaGreatDoorAmC
set_option linter.all false
set_option linter.unnecessarySimpa false
set_option linter.unusedSectionVars false
set_option linter.unusedSimpArgs false
set_option linter.unusedVariables false
namespace Go.Am
variable [Env]
section
variable [Base]
variable {P : Program} {H : Hints}

/-- operations that look, and no more -/
def isV (o : Oper) : Bool := match o.op with
  | .move .. | .pick .. | .load .. | .nilCheck .. | .binOp .. | .unOp .. | .makeInterface .. | .makeFunc .. | .fieldAddr .. | .field .. | .indexAddr .. | .index .. | .slice .. | .lookup .. | .typeAssert .. | .extract .. | .build .. => true
  | .call { callee := .builtin .len, .. } => true
  | .call { callee := .builtin .max, .. } => true
  | .call { callee := .builtin .min, .. } => true
  | _ => false
/-- operations that do more, and may stand beside such as look -/
def isN (o : Oper) : Bool := match o.op with
  | .assign .. | .convert .. | .alloc .. | .box .. | .buildSlice .. | .store .. => true
  | .call { callee := .builtin .append, .. } => true
  | .call { callee := .value _, .. } => true
  | .call { callee := .invoke _ _, .. } => true
  | _ => false
/-- into whose memory it looks -/
def looked (o : Oper) : Option Operand := match o.op with
  | .load _ a => some a
  | .indexAddr _ x _ => some x
  | .slice _ x _ _ _ => some x
  | .lookup _ x _ _ => some x
  | .call { callee := .builtin .len, args, .. } => args[0]?
  | _ => none
def unitsOf (v : Option AV) : List Nat := match v with
  | some v => (refs v).map (· / 64)
  | none => []
def unitsV (s : St) (o : Oper) : List Nat := match looked o with
  | some x => unitsOf (ev1 s x)
  | none => []
def tmpL : Operand → List Tmp
  | .tmp t => [t]
  | _ => []
/-- slots out of which something may be taken -/
def takes (o : Oper) : List Tmp := match o.op with
  | .assign x => tmpL x
  | .store _ _ x => tmpL x
  | .call { callee := .builtin .append, args, .. } => match args.toList with | x :: _ => tmpL x | [] => []
  | _ => []
/-- into whose memory it may write -/
def touch (P : Program) (H : Hints) (s : St) (o : Oper) : List Nat := match o.op with
  | .store _ a _ => match ev1 s a with
    | some (.ptr k off) => [k / 64, (k + 1 + off) / 64]
    | some (.eptr k _ _ _) => [k / 64]
    | _ => []
  | .call { callee := .builtin .append, args, .. } => match args.toList with | x :: _ => unitsOf (ev1 s x) | [] => []
  | .call { callee := .builtin _, .. } => []
  | .call c => match calleeOf P s c with
    | some (f, args) => match H.mode f with
      | 0 => []
      | _ => reachU s.os (s.os.length + args.length + 1) 0 (addU [] (refss args))
    | none => []
  | _ => []
def hasU (os : OS) (u : Nat) : Bool := os.any fun e => e.1 / 64 == u

def unsh : Obj → Obj
  | .row sz xs lo _ => .row sz xs lo false
  | o => o
/-- the same thing, but for who else looks at it -/
def SameM (os os2 : OS) (k : Nat) : Prop := (getObj os k).map unsh = (getObj os2 k).map unsh
theorem SameM.cases {os os2 : OS} {k : Nat} (h : SameM os os2 k) : getObj os k = getObj os2 k ∨ ∃ sz xs lo s1 s2, getObj os k = some (.row sz xs lo s1) ∧ getObj os2 k = some (.row sz xs lo s2) := by
  unfold SameM at h
  cases h1 : getObj os k with
  | none => rw [h1] at h; cases h2 : getObj os2 k with
    | none => exact .inl rfl
    | some b => rw [h2] at h; cases h
  | some a =>
    rw [h1] at h
    cases h2 : getObj os2 k with
    | none => rw [h2] at h; cases h
    | some b =>
      rw [h2] at h
      simp only [Option.map_some, Option.some.injEq] at h
      cases a <;> cases b <;> simp only [unsh] at h <;> first | (cases h; exact .inl rfl) | (cases h; exact .inr ⟨_, _, _, _, _, rfl, rfl⟩) | cases h
theorem SameM.refl (os : OS) (k : Nat) : SameM os os k := rfl
theorem SameM.symm {os os2 : OS} {k : Nat} (h : SameM os os2 k) : SameM os2 os k := Eq.symm h
theorem SameM.trans {os os2 os3 : OS} {k : Nat} (h : SameM os os2 k) (h' : SameM os2 os3 k) : SameM os os3 k := Eq.trans h h'
theorem SameM.of_eq {os os2 : OS} {k : Nat} (h : getObj os k = getObj os2 k) : SameM os os2 k := by unfold SameM; rw [h]

/-! ### what an operation that looks sees -/
theorem loadN_same {os os2 : OS} {n : Nat} {b : Bool} {v : AV} (h : ∀ k ∈ refs v, SameM os os2 k) : loadN os n b v = loadN os2 n b v := by
  cases v with
  | ptr k off =>
    rcases (h k (by simp [refs])).cases with e | ⟨_, _, _, _, _, e1, e2⟩
    · simp only [loadN, e]
    · simp only [loadN, e1, e2]
  | eptr k i off m =>
    rcases (h k (by simp [refs])).cases with e | ⟨_, _, _, _, _, e1, e2⟩
    · simp only [loadN, e]
    · simp only [loadN, e1, e2]
  | _ => rfl
theorem indexAddrV_same {os os2 : OS} {t : TypeId} {v : AV} {i : Nat} (h : ∀ k ∈ refs v, SameM os os2 k) : indexAddrV P os t v i = indexAddrV P os2 t v i := by
  cases v with
  | row k off len =>
    rcases (h k (by simp [refs])).cases with e | ⟨_, _, _, _, _, e1, e2⟩
    · simp only [indexAddrV, e]
    · simp only [indexAddrV, e1, e2]
      cases elemT P t <;> rfl
  | p x => cases x <;> rfl
  | _ => rfl
theorem sliceV_same {os os2 : OS} {t : TypeId} {v : AV} {lo hi mx : Option AV} (h : ∀ k ∈ refs v, SameM os os2 k) : sliceV P os t v lo hi mx = sliceV P os2 t v lo hi mx := by
  cases v with
  | row k off len =>
    rcases (h k (by simp [refs])).cases with e | ⟨_, _, _, _, _, e1, e2⟩
    · simp only [sliceV, e]
    · simp only [sliceV, e1, e2]
  | p x => cases x <;> rfl
  | _ => rfl
theorem lookupV_same {os os2 : OS} {t : TypeId} {m i : AV} {b : Bool} (h : ∀ k ∈ refs m, SameM os os2 k) : lookupV P os t m i b = lookupV P os2 t m i b := by
  cases m with
  | mp k =>
    rcases (h k (by simp [refs])).cases with e | ⟨_, _, _, _, _, e1, e2⟩
    · simp only [lookupV, e]
    · simp only [lookupV, e1, e2]
  | p x =>
    cases x with
    | «at» v => cases v with
      | map m => cases m <;> (unfold lookupV; rfl)
      | _ => unfold lookupV; rfl
    | _ => unfold lookupV; rfl
  | _ => unfold lookupV; rfl
theorem lenV_same {os os2 : OS} {t : TypeId} {v : AV} (h : ∀ k ∈ refs v, SameM os os2 k) : lenV P os t v = lenV P os2 t v := by
  cases v with
  | mp k =>
    rcases (h k (by simp [refs])).cases with e | ⟨_, _, _, _, _, e1, e2⟩
    · unfold lenV
      cases P.underlying t with
      | none => rfl
      | some d => cases d <;> simp only [e]
    · unfold lenV
      cases P.underlying t with
      | none => rfl
      | some d => cases d <;> simp only [e1, e2]
  | p x =>
    unfold lenV
    cases P.underlying t with
    | none => rfl
    | some d => cases x with
      | «at» v => cases v with
        | map m => cases m <;> cases d <;> rfl
        | _ => cases d <;> rfl
      | _ => cases d <;> rfl
  | _ =>
    unfold lenV
    cases P.underlying t with
    | none => rfl
    | some d => cases d <;> rfl

def opTmps (o : Oper) : List Tmp := o.op.operands.toList.filterMap fun | .tmp t => some t | _ => none
/-- two states in which an operation's operands are the same -/
def SameOps (o : Oper) (s s2 : St) : Prop := ∀ x ∈ o.op.operands, ev1 s2 x = ev1 s x

theorem evs_same {s s2 : St} : ∀ {xs : List Operand}, (∀ x ∈ xs, ev1 s2 x = ev1 s x) → evs s2 xs = evs s xs
  | [], _ => rfl
  | x :: xs, h => by simp only [evs, h x (by simp), evs_same (xs := xs) fun y hy => h y (by simp [hy])]
theorem evps_same {s s2 : St} : ∀ {xs : List (Nat × Operand)}, (∀ x ∈ xs, ev1 s2 x.2 = ev1 s x.2) → evps s2 xs = evps s xs
  | [], _ => rfl
  | (i, x) :: xs, h => by simp only [evps, h (i, x) (by simp), evps_same (xs := xs) fun y hy => h y (by simp [hy])]
theorem evO_same {s s2 : St} {x : Option Operand} (h : ∀ y, x = some y → ev1 s2 y = ev1 s y) : evO s2 x = evO s x := by
  cases x with
  | none => rfl
  | some y => simp only [evO, h y rfl]

theorem stepV_same {s s2 : St} {o : Oper} (hs : SameOps o s s2) (hm : ∀ u ∈ unitsV s o, ∀ k, k / 64 = u → SameM s.os s2.os k) : stepV P s2 o.op = stepV P s o.op := by
  obtain ⟨dst, op, ty, pos, after, guard⟩ := o
  have hu : ∀ (x : Operand) (v : AV), looked ⟨dst, op, ty, pos, after, guard⟩ = some x → ev1 s x = some v → ∀ k ∈ refs v, SameM s2.os s.os k := by
    intro x v h1 h2 k hk
    refine (hm (k / 64) ?_ k rfl).symm
    unfold unitsV
    rw [h1]
    simp only [h2, unitsOf, List.mem_map]
    exact ⟨k, hk, rfl⟩
  unfold SameOps at hs
  cases op with
  | move x => simp only [Op.operands] at hs; simp only [stepV, hs x (by simp)]
  | pick c x y => simp only [Op.operands] at hs; simp only [stepV, hs c (by simp), hs x (by simp), hs y (by simp)]
  | load t x =>
    simp only [Op.operands] at hs
    simp only [stepV, hs x (by simp)]
    cases hv : ev1 s x with
    | none => rfl
    | some v => split <;> first | rfl | (injections; subst_vars; exact loadN_same (hu x _ rfl hv))
  | nilCheck x => simp only [Op.operands] at hs; simp only [stepV, hs x (by simp)]
  | binOp b t x y z => simp only [Op.operands] at hs; simp only [stepV, hs x (by simp), hs y (by simp)]
  | unOp b t x => simp only [Op.operands] at hs; simp only [stepV, hs x (by simp)]
  | makeInterface t x => simp only [Op.operands] at hs; simp only [stepV, hs x (by simp)]
  | makeFunc f fi cap =>
    simp only [Op.operands] at hs
    cases f with
    | func f => simp only [stepV, evs_same (xs := cap.toList) fun x hx => hs x (by simp at hx ⊢; exact .inr hx)]
    | _ => rfl
  | fieldAddr t x f => simp only [Op.operands] at hs; simp only [stepV, hs x (by simp)]
  | field t x f => simp only [Op.operands] at hs; simp only [stepV, hs x (by simp)]
  | indexAddr t x i =>
    simp only [Op.operands] at hs
    simp only [stepV, hs x (by simp), hs i (by simp)]
    cases hv : ev1 s x with
    | none => rfl
    | some v => split <;> first | rfl | (injections; subst_vars; split <;> first | rfl | exact indexAddrV_same (hu x _ rfl hv))
  | index t x i => simp only [Op.operands] at hs; simp only [stepV, hs x (by simp), hs i (by simp)]
  | slice t x lo hi mx =>
    simp only [Op.operands] at hs
    simp only [stepV, hs x (by simp), evO_same (x := lo) fun y hy => hs y (by simp [hy]), evO_same (x := hi) fun y hy => hs y (by simp [hy]), evO_same (x := mx) fun y hy => hs y (by simp [hy])]
    cases hv : ev1 s x with
    | none => rfl
    | some v => split <;> first | rfl | (injections; subst_vars; exact sliceV_same (hu x _ rfl hv))
  | lookup t x i b =>
    simp only [Op.operands] at hs
    simp only [stepV, hs x (by simp), hs i (by simp)]
    cases hv : ev1 s x with
    | none => rfl
    | some v => split <;> first | rfl | (injections; subst_vars; exact lookupV_same (hu x _ rfl hv))
  | typeAssert x f t b => simp only [Op.operands] at hs; simp only [stepV, hs x (by simp)]
  | extract x i => simp only [Op.operands] at hs; simp only [stepV, hs x (by simp)]
  | build t ps =>
    simp only [Op.operands] at hs
    simp only [stepV, evps_same (xs := ps.toList) fun x hx => hs x.2 (by simp only [List.mem_toArray, List.mem_map]; exact ⟨x, hx, rfl⟩)]
  | call c =>
    obtain ⟨callee, args, ts⟩ := c
    simp only [Op.operands] at hs
    have ha : evs s2 args.toList = evs s args.toList := evs_same fun x hx => hs x (by simp only [Call.operands, Array.mem_append]; exact .inr (by simpa using hx))
    cases callee with
    | builtin b =>
      cases b with
      | len =>
        simp only [stepV, ha]
        split
        · rename_i v t hv ht
          have : ∃ x, args[0]? = some x ∧ ev1 s x = some v := by
            obtain ⟨l⟩ := args
            cases l with
            | nil => simp [evs] at hv
            | cons x xs =>
              simp only [evs] at hv
              refine ⟨x, rfl, ?_⟩
              split at hv
              · rename_i v' hv'
                split at hv
                · cases hv; exact hv'
                · cases hv
              · cases hv
          obtain ⟨x, h1, h2⟩ := this
          exact lenV_same (hu x v h1 h2)
        · rfl
      | max => simp only [stepV, ha]
      | min => simp only [stepV, ha]
      | _ => rfl
    | _ => rfl
  | _ => rfl
end
end Go.Am
namespace Go.Am
variable [Env]
section
variable [Base]
variable {P : Program} {H : Hints} {cx : Cx} {call : CallFn}

def putR (d : Option Tmp) (v : AV) : R1 → R1
  | .ok s => .ok (put s d v)
  | .pan c s => .pan c (put s d v)

/-- an operation that doesn't see a slot -/
def Blind (d : Option Tmp) (o : Oper) : Prop := ∀ t, d = some t → t ∉ opTmps o

theorem ev1_put {s : St} {d : Option Tmp} {v : AV} {x : Operand} (h : ∀ t, d = some t → x ≠ .tmp t) : ev1 (put s d v) x = ev1 s x := by
  cases d with
  | none => rfl
  | some d =>
    cases x with
    | tmp t =>
      show (s.slots.set d v).get t = s.slots.get t
      rw [Slots.get_set, if_neg (fun e => h d rfl (by rw [e]))]
    | _ => rfl
theorem Blind.ops {d : Option Tmp} {o : Oper} (h : Blind d o) (s : St) (v : AV) : SameOps o s (put s d v) := by
  intro x hx
  refine ev1_put fun t ht hxt => h t ht ?_
  subst hxt
  exact List.mem_filterMap.2 ⟨.tmp t, by simpa using hx, rfl⟩

theorem put_put {s : St} {d e : Option Tmp} {u v : AV} (h : ∀ t, d = some t → e ≠ some t) : put (put s d u) e v = put (put s e v) d u := by
  cases d with
  | none => rfl
  | some d => cases e with
    | none => rfl
    | some e => simp only [put]; rw [Slots.set_comm _ _ _ (fun he => h d rfl (by rw [he]))]
theorem put_osE {s : St} {d : Option Tmp} {v : AV} : (put s d v).os = s.os := by cases d <;> rfl
theorem put_dfr {s : St} {d : Option Tmp} {v : AV} : (put s d v).dfr = s.dfr := by cases d <;> rfl
theorem put_with {s : St} {d : Option Tmp} {v : AV} {os : OS} : { put s d v with os := os } = put { s with os := os } d v := by cases d <;> rfl

theorem took_put {s : St} {d : Option Tmp} {u v : AV} {x : Operand} (h : ∀ t, d = some t → x ≠ .tmp t) : took (put s d v) x u = put (took s x u) d v := by
  cases d with
  | none => rfl
  | some d =>
    cases x with
    | tmp t =>
      have hne : d ≠ t := fun e => h d rfl (by rw [e])
      cases u with
      | fresh => simp only [took, put]; rw [Slots.set_comm _ _ _ hne]
      | uniq => simp only [took, put]; rw [Slots.set_comm _ _ _ hne]
      | _ => rfl
    | _ => rfl
theorem newRowS_put {s : St} {d : Option Tmp} {v : AV} {e : Tmp} {sz : Nat} {xs : List (List PV)} {sh : Bool} (h : ∀ t, d = some t → e ≠ t) : newRowS cx (put s d v) e sz xs sh = put (newRowS cx s e sz xs sh) d v := by
  cases d with
  | none => rfl
  | some d => simp only [newRowS, put]; rw [Slots.set_comm _ _ _ (fun he => h d rfl he.symm)]
theorem newSlice_put {s : St} {d : Option Tmp} {u v : AV} {e : Tmp} (h : ∀ t, d = some t → e ≠ t) : newSlice H cx (put s d v) e u = put (newSlice H cx s e u) d v := by
  have key : ∀ x, { put s d v with slots := (put s d v).slots.set e x } = put { s with slots := s.slots.set e x } d v := by
    intro x
    cases d with
    | none => rfl
    | some d => simp only [put]; rw [Slots.set_comm _ _ _ (fun he => h d rfl he.symm)]
  cases u with
  | fresh => simp only [newSlice]; split; exact newRowS_put h; exact key _
  | uniq => simp only [newSlice]; split; exact newRowS_put h; exact key _
  | _ => exact key _
theorem newCells_put {s : St} {d : Option Tmp} {v : AV} {e : Tmp} {cs : List AV} (h : ∀ t, d = some t → e ≠ t) : newCells H cx (put s d v) e cs = (newCells H cx s e cs).map fun s => put s d v := by
  cases d with
  | none =>
    show newCells H cx s e cs = _
    cases newCells H cx s e cs <;> rfl
  | some d =>
    obtain ⟨sl, os, df⟩ := s
    show newCells H cx ⟨sl.set d v, os, df⟩ e cs = (newCells H cx ⟨sl, os, df⟩ e cs).map fun s => put s (some d) v
    unfold newCells
    simp only
    split
    · simp only [Option.map_some, put]
      rw [Slots.set_comm _ _ _ (fun he => h d rfl he.symm)]
    · rfl
theorem appendA_put {s : St} {d : Option Tmp} {v : AV} {dst : Option Tmp} {x : Operand} {a b : AV} {e : TypeId} (hx : ∀ t, d = some t → x ≠ .tmp t) (hd : ∀ t, d = some t → dst ≠ some t) :
    appendA P (put s d v) dst x a b e = (appendA P s dst x a b e).map fun s => put s d v := by
  have hd' : ∀ t, dst = some t → d ≠ some t := fun t h1 h2 => hd t h2 h1
  unfold appendA
  simp only [put_osE]
  cases elems s.os b with
  | none => rfl
  | some p =>
    obtain ⟨sz', ys⟩ := p
    simp only
    by_cases h0 : szT P e = 0
    · simp only [if_pos h0, Option.map_none]
    simp only [if_neg h0]
    by_cases h1 : ys.isEmpty = true
    · simp only [if_pos h1]
      cases a with
      | row => simp only [Option.map_some, put_put hd]
      | fresh => simp only [Option.map_some, took_put hx, put_put hd]
      | _ => rfl
    simp only [if_neg h1]
    by_cases h2 : zeroOK P e = true ∧ szT P e ≠ 0 ∧ sz' = szT P e
    · simp only [if_pos h2]
      cases a with
      | row k off len =>
        simp only
        cases getObj s.os k with
        | none => rfl
        | some ob => cases ob with
          | row sz xs lo sh =>
            simp only
            split
            · rename_i h3
              simp only [if_pos h3, Option.map_some, put_with, put_put hd]
            · rename_i h3
              simp only [if_neg h3, Option.map_none]
          | _ => rfl
      | fresh sz xs =>
        simp only
        split
        · rename_i h3
          simp only [if_pos h3, Option.map_some, took_put hx, put_put hd]
        · rename_i h3
          simp only [if_neg h3, Option.map_none]
      | _ => rfl
    · simp only [if_neg h2, Option.map_none]
theorem calleeOf_put {s s2 : St} {c : Call} (h : ∀ x ∈ c.operands, ev1 s2 x = ev1 s x) : calleeOf P s2 c = calleeOf P s c := by
  obtain ⟨callee, args, ts⟩ := c
  have ha : evs s2 args.toList = evs s args.toList := evs_same fun x hx => h x (by simp only [Call.operands, Array.mem_append]; exact .inr (by simpa using hx))
  cases callee with
  | value f => simp only [calleeOf, ha, h f (by simp [Call.operands])]
  | invoke r m => simp only [calleeOf, ha, h r (by simp [Call.operands])]
  | builtin b => rfl
theorem fin_put {s : St} {d e : Option Tmp} {v : AV} {r : Res} (h : ∀ t, d = some t → e ≠ some t) : fin (put s d v) e r = putR d v (fin s e r) := by
  cases r with
  | ret u os => simp only [fin, putR, put_with, put_put h]
  | pan u os => simp only [fin, putR, put_with]

/-- an operation that doesn't see a slot does the same, whatever is in that slot -/
theorem stepO_put {s : St} {o : Oper} {d : Option Tmp} {v : AV} (hN : isN o = true) (hb : Blind d o) (hd : ∀ t, d = some t → o.dst ≠ some t) :
    stepO P H call cx o (put s d v) = (stepO P H call cx o s).map (putR d v) := by
  have hs := hb.ops s v
  have hx : ∀ x ∈ o.op.operands, ∀ t, d = some t → x ≠ .tmp t := fun x hx t ht he => hb t ht (List.mem_filterMap.2 ⟨.tmp t, by subst he; simpa using hx, rfl⟩)
  obtain ⟨dst, op, ty, pos, after, guard⟩ := o
  have hd2 : ∀ e, dst = some e → ∀ t, d = some t → e ≠ t := fun e he t ht h => hd t ht (by rw [← h]; exact he)
  unfold SameOps at hs
  cases op with
  | assign x =>
    simp only [Op.operands] at hs hx
    simp only [stepO, hs x (by simp)]
    cases ev1 s x with
    | none => rfl
    | some u => cases dst with
      | none => rfl
      | some e => simp only [Option.map_some, putR, took_put (hx x (by simp)), newSlice_put (hd2 e rfl)]
  | convert t1 t2 x =>
    simp only [Op.operands] at hs hx
    simp only [stepO, hs x (by simp), put_osE]
    cases ev1 s x with
    | none => rfl
    | some u =>
      simp only
      split
      · simp only [Option.map_some, putR, put_put hd]
      · split
        · simp only [Option.map_some, putR, put_put hd]
        · rfl
  | alloc t =>
    simp only [stepO]
    cases zeroT P t with
    | none => rfl
    | some z => cases dst with
      | none => rfl
      | some e =>
        simp only [newCells_put (hd2 e rfl)]
        cases newCells H cx s e (cellsOf z) <;> rfl
  | box t x =>
    simp only [Op.operands] at hs hx
    simp only [stepO, hs x (by simp)]
    cases ev1 s x with
    | none => rfl
    | some u => cases dst with
      | none => rfl
      | some e =>
        simp only [newCells_put (hd2 e rfl)]
        cases newCells H cx s e (cps (cellsOf u)) <;> rfl
  | buildSlice t n ps =>
    simp only [Op.operands] at hs hx
    simp only [stepO, put_osE, evps_same (s := s) (s2 := put s d v) (xs := ps.toList) fun x hx => hs x.2 (by simp only [List.mem_toArray, List.mem_map]; exact ⟨x, hx, rfl⟩)]
    split
    · split
      · split
        · split
          · split
            · rename_i e _ _ _ _ _ _ _ _ _ _
              simp only [Option.map_some, putR, put_with, newRowS_put (hd2 _ rfl)]
            · simp only [Option.map_some, putR, put_with, put_put hd]
          · rfl
        · rfl
      · rfl
    · rfl
  | store t x y =>
    simp only [Op.operands] at hs hx
    simp only [stepO, hs x (by simp), hs y (by simp), put_osE]
    split
    · split
      · split
        · simp only [Option.map_some, putR, took_put (hx y (by simp)), put_put hd, put_with]
        · rfl
      · rfl
    · rfl
  | call c =>
    obtain ⟨callee, args, ts⟩ := c
    simp only [Op.operands] at hs hx
    cases callee with
    | builtin b =>
      cases b with
      | append =>
        simp only [stepO]
        split
        · rename_i x y t hargs _ _
          have m1 : x ∈ args := by rw [← Array.mem_toList_iff, hargs]; simp
          have m2 : y ∈ args := by rw [← Array.mem_toList_iff, hargs]; simp
          have k1 : x ∈ (Call.mk (.builtin .append) args ts).operands := by simp only [Call.operands, Array.mem_append]; exact .inr m1
          have k2 : y ∈ (Call.mk (.builtin .append) args ts).operands := by simp only [Call.operands, Array.mem_append]; exact .inr m2
          simp only [hs x k1, hs y k2]
          split
          · simp only [appendA_put (hx x k1) hd]
            cases appendA P s dst x _ _ _ <;> rfl
          · rfl
        · rfl
      | _ => simp [isN] at hN
    | value f =>
      simp only [stepO, calleeOf_put (P := P) (c := ⟨.value f, args, ts⟩) hs, put_osE]
      split
      · split
        · simp only [Option.map_some, fin_put hd]
        · rfl
      · rfl
    | invoke r m =>
      simp only [stepO, calleeOf_put (P := P) (c := ⟨.invoke r m, args, ts⟩) hs, put_osE]
      split
      · split
        · simp only [Option.map_some, fin_put hd]
        · rfl
      · rfl
  | _ => simp [isN] at hN
end
end Go.Am
namespace Go.Am
variable [Env]
section
variable [Base]
variable {P : Program} {H : Hints} {cx : Cx} {call : CallFn}

theorem put_get {s : St} {d : Option Tmp} {v : AV} {t : Tmp} (h : d ≠ some t) : (put s d v).slots.get t = s.slots.get t := by
  cases d with
  | none => rfl
  | some d => show (s.slots.set d v).get t = _; rw [Slots.get_set, if_neg (fun e => h (by rw [e]))]
theorem took_get {s : St} {x : Operand} {v : AV} {t : Tmp} (h : t ∉ tmpL x) : (took s x v).slots.get t = s.slots.get t := by
  cases x with
  | tmp t' =>
    have hne : t ≠ t' := fun e => h (by simp [tmpL, e])
    cases v with
    | fresh => show (s.slots.set t' _).get t = _; rw [Slots.get_set, if_neg hne]
    | uniq => show (s.slots.set t' _).get t = _; rw [Slots.get_set, if_neg hne]
    | _ => rfl
  | _ => rfl
theorem newSlice_get {s : St} {e : Tmp} {v : AV} {t : Tmp} (h : e ≠ t) : (newSlice H cx s e v).slots.get t = s.slots.get t := by
  have key : ∀ x, (s.slots.set e x).get t = s.slots.get t := fun x => by rw [Slots.get_set, if_neg (fun he => h he.symm)]
  cases v with
  | fresh => simp only [newSlice]; split; exact key _; exact key _
  | uniq => simp only [newSlice]; split; exact key _; exact key _
  | _ => exact key _

theorem maxU_mem : ∀ {os : OS} {e : Nat × Obj}, e ∈ os → e.1 / 64 ≤ maxU os
  | [], e, h => by cases h
  | (k, o) :: m, e, h => by
    simp only [maxU]
    rcases List.mem_cons.1 h with rfl | h
    · exact Nat.le_max_left _ _
    · exact Nat.le_trans (maxU_mem h) (Nat.le_max_right _ _)
theorem hasU_free (os : OS) (u : Nat) : hasU os (freeU os u) = false := by
  unfold freeU
  split
  · unfold hasU
    rw [Bool.eq_false_iff]
    intro h
    rw [List.any_eq_true] at h
    obtain ⟨e, he, h⟩ := h
    have := maxU_mem he
    simp only [beq_iff_eq] at h
    omega
  · rename_i h
    simpa [hasU] using h
theorem same_cons {os : OS} {j k : Nat} {o : Obj} (h : j ≠ k) : SameM os ((j, o) :: os) k := .of_eq (by rw [getObj_cons, if_neg h])
theorem same_set {os : OS} {j k : Nat} {o : Obj} (h : j ≠ k) : SameM os (setObj os j o) k := .of_eq (by rw [getObj_set_ne (Ne.symm h)])
theorem setObj_hasU (k : Nat) (o : Obj) : ∀ (os : OS) (u : Nat), hasU (setObj os k o) u = hasU os u
  | [], _ => rfl
  | (j, x) :: m, u => by
    simp only [setObj]
    split
    · simp [hasU]
    · have := setObj_hasU k o m u
      simp only [hasU] at this
      simp only [hasU, List.any_cons, this]
theorem share_same (os : OS) (j : Nat) : (∀ k, SameM os (share os j) k) ∧ ∀ u, hasU (share os j) u = hasU os u := by
  unfold share
  split
  · rename_i sz xs lo sh h
    refine ⟨fun k => ?_, setObj_hasU _ _ _⟩
    by_cases e : k = j
    · subst e
      unfold SameM
      rw [h, getObj_set_self h]; rfl
    · exact .of_eq (by rw [getObj_set_ne e])
  · exact ⟨fun k => .refl _ _, fun u => rfl⟩
/-- nothing is another thing, but that somebody else looks at it too -/
def Marks (os os' : OS) : Prop := (∀ k, SameM os os' k) ∧ ∀ u, hasU os' u = hasU os u
theorem Marks.refl (os : OS) : Marks os os := ⟨fun k => .refl _ _, fun u => rfl⟩
theorem Marks.trans {os os' os'' : OS} (h : Marks os os') (h' : Marks os' os'') : Marks os os'' := ⟨fun k => (h.1 k).trans (h'.1 k), fun u => (h'.2 u).trans (h.2 u)⟩
mutual
theorem frz_marks : ∀ (v : AV) {os os' : OS} {x : PV}, frz os v = some (x, os') → Marks os os'
  | .p x, os, os', y, h => by cases h; exact .refl _
  | .fresh sz xs, os, os', y, h => by cases h; exact .refl _
  | .row k off len, os, os', y, h => by
    simp only [frz] at h
    split at h
    · cases h; exact share_same os k
    · cases h
  | .agg cs, os, os', y, h => by
    simp only [frz] at h
    split at h
    · rename_i xs os1 h1; cases h; exact frzs_marks cs h1
    · cases h
  | .ifc t x, os, os', y, h => by
    simp only [frz] at h
    split at h
    · rename_i xs os1 h1; cases h; exact frz_marks x h1
    · cases h
  | .fn f cap, os, os', y, h => by
    cases cap with
    | nil => simp only [frz] at h; cases h; exact .refl _
    | cons a b => simp [frz] at h
  | .ptr _ _, os, os', y, h => by simp [frz] at h
  | .eptr _ _ _ _, os, os', y, h => by simp [frz] at h
  | .elem _ _, os, os', y, h => by simp [frz] at h
  | .uniq _ _, os, os', y, h => by simp [frz] at h
  | .mp _, os, os', y, h => by simp [frz] at h
  | .tup _, os, os', y, h => by simp [frz] at h
  | .undef, os, os', y, h => by simp [frz] at h
theorem frzs_marks : ∀ (vs : List AV) {os os' : OS} {xs : List PV}, frzs os vs = some (xs, os') → Marks os os'
  | [], os, os', xs, h => by simp only [frzs] at h; cases h; exact .refl _
  | v :: vs, os, os', xs, h => by
    simp only [frzs] at h
    split at h
    · rename_i y os1 h1
      split at h
      · rename_i ys os2 h2
        cases h
        exact (frz_marks v h1).trans (frzs_marks vs h2)
      · cases h
    · cases h
end
theorem frzArg_marks {v : AV} {os os' : OS} {x : AV} (h : frzArg os v = some (x, os')) : Marks os os' := by
  unfold frzArg at h
  split at h
  · cases h; exact .refl _
  · cases h; exact .refl _
  · split at h
    · rename_i h1; cases h; exact frz_marks _ h1
    · cases h
theorem frzArgs_marks : ∀ {vs : List AV} {os os' : OS} {xs : List AV}, frzArgs os vs = some (xs, os') → Marks os os'
  | [], os, os', xs, h => by simp only [frzArgs] at h; cases h; exact .refl _
  | v :: vs, os, os', xs, h => by
    simp only [frzArgs] at h
    split at h
    · rename_i y os1 h1
      split at h
      · rename_i ys os2 h2
        cases h
        exact (frzArg_marks h1).trans (frzArgs_marks h2)
      · cases h
    · cases h
theorem litElems_marks {size : Nat} : ∀ {ps : List (Nat × AV)} {i : Nat} {os os' : OS} {xs : List (List PV)}, litElems size i ps os = some (xs, os') → Marks os os'
  | [], i, os, os', xs, h => by simp only [litElems] at h; cases h; exact .refl _
  | (j, v) :: ps, i, os, os', xs, h => by
    simp only [litElems] at h
    split at h
    · split at h
      · rename_i h1
        split at h
        · rename_i h2
          cases h
          exact (frzs_marks _ h1).trans (litElems_marks h2)
        · cases h
      · cases h
    · cases h

theorem rowCells_same {f k d : Nat} {u : Nat} (hk : k = u * 64) : ∀ {cs : List AV} {j : Nat} {os : OS}, j + cs.length < 63 → ∀ x, x / 64 ≠ u → SameM os (rowCells H f k d j cs os).2 x
  | [], j, os, _, x, hx => .refl _ _
  | c :: cs, j, os, hl, x, hx => by
    have ih := rowCells_same (f := f) (d := d) hk (cs := cs) (j := j + 1) (os := os) (by simp only [List.length_cons] at hl; omega) x hx
    simp only [rowCells]
    split
    · refine ih.trans (same_cons ?_)
      simp only [List.length_cons] at hl
      omega
    · exact ih

theorem same_new {os os' : OS} {k u0 : Nat} (h : hasU os (k / 64) = true) (hm : SameM os os' k) (hu : ∀ u, hasU os' u = hasU os u) {o : Obj} : SameM os ((freeU os' u0 * 64, o) :: os') k := by
  refine hm.trans (same_cons fun e => ?_)
  have := hasU_free os' u0
  rw [hu] at this
  rw [← e, Nat.mul_div_cancel _ (by decide)] at h
  rw [h] at this; cases this

/-- what an operation doesn't touch stays -/
theorem stepO_frame {s s' : St} {o : Oper} (hN : isN o = true) (h : stepO P H call cx o s = some (.ok s')) :
    (∀ t, o.dst ≠ some t → t ∉ takes o → s'.slots.get t = s.slots.get t) ∧ ∀ k, hasU s.os (k / 64) = true → k / 64 ∉ touch P H s o → SameM s.os s'.os k := by
  have slice : ∀ (s1 : St) (e : Tmp) (v : AV) (k : Nat), s1.os = s.os → hasU s.os (k / 64) = true → SameM s.os (newSlice H cx s1 e v).os k := by
    intro s1 e v k he hk
    have row : ∀ sz xs sh, SameM s.os (newRowS cx s1 e sz xs sh).os k := by
      intro sz xs sh
      simp only [newRowS, newUnit, he]
      exact same_new hk (.refl _ _) fun _ => rfl
    cases v with
    | fresh => simp only [newSlice]; split; exact row _ _ _; exact .of_eq (by rw [he])
    | uniq => simp only [newSlice]; split; exact row _ _ _; exact .of_eq (by rw [he])
    | _ => exact .of_eq (by rw [← he]; rfl)
  have cells : ∀ (e : Tmp) (cs : List AV) (s' : St), newCells H cx s e cs = some s' → (∀ t, e ≠ t → s'.slots.get t = s.slots.get t) ∧ ∀ k, hasU s.os (k / 64) = true → SameM s.os s'.os k := by
    intro e cs s' h
    unfold newCells at h
    simp only at h
    split at h
    · rename_i hc
      cases h
      refine ⟨fun t ht => by show (s.slots.set e _).get t = _; rw [Slots.get_set, if_neg (fun he => ht he.symm)], fun k hk => ?_⟩
      rw [rowCells_len] at hc
      have hne : k / 64 ≠ newUnit cx s.os e := by
        intro he
        have := hasU_free s.os (unitOf cx e)
        rw [show freeU s.os (unitOf cx e) = k / 64 from he.symm, hk] at this
        cases this
      refine (rowCells_same rfl (by omega) k hne).trans (same_cons fun he => hne ?_)
      rw [← he, Nat.mul_div_cancel _ (by decide)]
    · cases h
  obtain ⟨dst, op, ty, pos, after, guard⟩ := o
  cases op with
  | assign x =>
    simp only [stepO] at h
    split at h
    · rename_i v d hv
      cases h
      refine ⟨fun t h1 h2 => ?_, fun k h1 h2 => ?_⟩
      · rw [newSlice_get (fun e => h1 (by rw [← e])), took_get h2]
      · exact slice _ _ _ _ (took_os _ _) h1
    · cases h
  | convert t1 t2 x =>
    simp only [stepO] at h
    split at h
    · split at h
      · cases h; exact ⟨fun t h1 h2 => put_get h1, fun k h1 h2 => .of_eq (by rw [put_osE])⟩
      · split at h
        · cases h; exact ⟨fun t h1 h2 => put_get h1, fun k h1 h2 => .of_eq (by rw [put_osE])⟩
        · cases h
    · cases h
  | alloc t =>
    simp only [stepO] at h
    split at h
    · split at h
      · rename_i hc
        cases h
        obtain ⟨c1, c2⟩ := cells _ _ _ hc
        exact ⟨fun t h1 h2 => c1 t fun e => h1 (by rw [← e]), fun k h1 h2 => c2 k h1⟩
      · cases h
    · cases h
  | box t x =>
    simp only [stepO] at h
    split at h
    · split at h
      · rename_i hc
        cases h
        obtain ⟨c1, c2⟩ := cells _ _ _ hc
        exact ⟨fun t h1 h2 => c1 t fun e => h1 (by rw [← e]), fun k h1 h2 => c2 k h1⟩
      · cases h
    · cases h
  | buildSlice t n ps =>
    simp only [stepO] at h
    split at h
    · rename_i ps' e d _ _
      split at h
      · split at h
        · rename_i xs os' hl
          have m := litElems_marks hl
          split at h
          · split at h
            · cases h
              refine ⟨fun t h1 h2 => ?_, fun k h1 h2 => ?_⟩
              · show (s.slots.set d _).get t = _
                rw [Slots.get_set, if_neg (fun e => h1 (by rw [e]))]
              · simp only [newRowS, newUnit]
                exact same_new h1 (m.1 k) m.2
            · cases h
              refine ⟨fun t h1 h2 => ?_, fun k h1 h2 => ?_⟩
              · rw [put_get h1]
              · rw [put_osE]; exact m.1 k
          · cases h
        · cases h
      · cases h
    · cases h
  | store t x y =>
    simp only [stepO] at h
    split at h
    · rename_i a v ha hv
      split at h
      · split at h
        · rename_i os' hs
          cases h
          refine ⟨fun t h1 h2 => ?_, fun k h1 h2 => ?_⟩
          · show (put (took s y v) dst .undef).slots.get t = _
            rw [put_get h1, took_get h2]
          · show SameM s.os os' k
            simp only [touch, ha] at h2
            unfold storeN at hs
            split at hs
            · rename_i k0 off
              simp only [List.mem_cons, List.not_mem_nil, or_false, not_or] at h2
              have n1 : k0 ≠ k := fun e => h2.1 (by rw [e])
              have n2 : k0 + 1 + off ≠ k := fun e => h2.2 (by rw [e])
              split at hs
              · rename_i cs hcs
                have own : ∀ sz xs sh, storeOwn k0 s.os cs off sz xs sh = some os' → SameM s.os os' k := by
                  intro sz xs sh hs
                  unfold storeOwn at hs
                  split at hs
                  · split at hs
                    · split at hs
                      · split at hs
                        · cases hs; exact same_set n1
                        · cases hs; exact same_set n1
                      · cases hs; exact (same_set n2).trans (same_set n1)
                    · cases hs; exact same_set n1
                  · cases hs
                split at hs
                · exact own _ _ _ hs
                · exact own _ _ _ hs
                · split at hs
                  · cases hs; exact same_set n1
                  · cases hs
              · cases hs
            · rename_i k0 i off m
              simp only [List.mem_cons, List.not_mem_nil, or_false] at h2
              have n1 : k0 ≠ k := fun e => h2 (by rw [e])
              split at hs
              · rename_i ps os1 hf
                have mk := frzs_marks _ hf
                split at hs
                · split at hs
                  · split at hs
                    · cases hs; exact (mk.1 k).trans (same_set n1)
                    · cases hs
                  · cases hs
                · cases hs
              · cases hs
            · cases hs
        · cases h
      · cases h
    · cases h
  | call c =>
    obtain ⟨callee, args, ts⟩ := c
    have calls : ∀ (f : FuncId) (av : List AV) (u : Nat) (res : Res), calleeOf P s ⟨callee, args, ts⟩ = some (f, av) → touch P H s ⟨dst, .call ⟨callee, args, ts⟩, ty, pos, after, guard⟩ = (match H.mode f with | 0 => [] | _ => reachU s.os (s.os.length + av.length + 1) 0 (addU [] (refss av))) →
        modeCall H call u s.os f av = some res → fin s dst res = .ok s' → (∀ t, dst ≠ some t → t ∉ takes ⟨dst, .call ⟨callee, args, ts⟩, ty, pos, after, guard⟩ → s'.slots.get t = s.slots.get t) ∧ ∀ k, hasU s.os (k / 64) = true → k / 64 ∉ touch P H s ⟨dst, .call ⟨callee, args, ts⟩, ty, pos, after, guard⟩ → SameM s.os s'.os k := by
      intro f av u res hc ht hm hf
      cases res with
      | pan v os => cases hf
      | ret v os =>
        have hf' : s' = put { s with os } dst v := by simp only [fin, R1.ok.injEq] at hf; exact hf.symm
        subst hf'
        refine ⟨fun t h1 h2 => by rw [put_get h1], fun k h1 h2 => ?_⟩
        rw [put_osE]
        show SameM s.os os k
        rw [ht] at h2
        unfold modeCall at hm
        cases hmode : H.mode f with
        | zero =>
          rw [hmode] at hm
          simp only at hm
          split at hm
          · rename_i hfz
            split at hm
            · split at hm
              · cases hm; exact (frzArgs_marks hfz).1 k
              · cases hm
            · split at hm
              · cases hm
              · cases hm
            · cases hm
          · cases hm
        | succ m =>
          rw [hmode] at hm h2
          simp only at hm h2
          generalize hus : reachU s.os (s.os.length + av.length + 1) 0 (addU [] (refss av)) = us at hm h2
          have key : ∀ (v0 : AV) (os' : OS) (v2 : AV), back s.os us u v0 os' = some (v2, os) → SameM s.os os k := by
            intro v0 os' v2 hb
            unfold back at hb
            split at hb
            · rename_i v1 os1 hout
              simp only at hb
              generalize hall : reachU os1 (os1.length + us.length + 1) 0 (addU (List.range us.length) (refs v1)) = all at hb
              split at hb
              · split at hb
                · rename_i v3 osL hr hL
                  cases hb
                  refine .of_eq ?_
                  have hk : us.contains (k / 64) = false := by
                    rw [Bool.eq_false_iff]; intro hc; rw [List.contains_iff_mem] at hc; exact h2 hc
                  have hno : getObj osL k = none := by
                    cases hg : getObj osL k with
                    | none => rfl
                    | some o' =>
                      exfalso
                      have hnd : (us ++ freeUs s.os us u (all.length - us.length)).Nodup := by
                        rw [List.nodup_append]
                        refine ⟨by rw [← hus]; exact reachU_nodup _ _ _ _ (addU_nodup _ _ (by simp)), countU_nodup _ _, fun x hx y hy e => ?_⟩
                        subst e
                        have := maxL_ge hx
                        have := countU_mem _ _ _ hy
                        omega
                      have hle : all.length ≤ (us ++ freeUs s.os us u (all.length - us.length)).length := by
                        rw [List.length_append, freeUs, countU_len]; omega
                      obtain ⟨k0, _, _, e2, _⟩ := (lend_get (backIdx_ok hnd hle) hL).2 k o' hg
                      have hin := backIdx_some e2
                      rw [List.mem_append] at hin
                      rcases hin with hin | hin
                      · exact h2 hin
                      · have := countU_mem _ _ _ hin
                        unfold hasU at h1
                        rw [List.any_eq_true] at h1
                        obtain ⟨e, he, h1⟩ := h1
                        simp only [beq_iff_eq] at h1
                        have := maxU_mem he
                        omega
                  rw [app_get, hno]
                  simp only
                  rw [dropU_get, hk]
                  rfl
                · cases hb
              · cases hb
            · cases hb
          split at hm
          · split at hm
            · split at hm
              · rename_i hb
                cases hm
                exact key _ _ _ hb
              · cases hm
            · split at hm
              · cases hm
              · cases hm
            · cases hm
          · cases hm
    cases callee with
    | builtin b =>
      cases b with
      | append =>
        simp only [stepO] at h
        split at h
        · rename_i x y t hargs _ _
          split at h
          · rename_i e a b _ ha hb
            split at h
            · rename_i s1 hap
              cases h
              have ht : takes ⟨dst, .call ⟨.builtin .append, args, ts⟩, ty, pos, after, guard⟩ = tmpL x := by simp only [takes, hargs]
              have hto : touch P H s ⟨dst, .call ⟨.builtin .append, args, ts⟩, ty, pos, after, guard⟩ = unitsOf (ev1 s x) := by simp only [touch, hargs]
              rw [ht, hto, ha]
              unfold appendA at hap
              split at hap
              · split at hap
                · cases hap
                · split at hap
                  · split at hap
                    · cases hap; exact ⟨fun t h1 h2 => by rw [put_get h1], fun k h1 h2 => .of_eq (by rw [put_osE])⟩
                    · cases hap; exact ⟨fun t h1 h2 => by rw [put_get h1, took_get h2], fun k h1 h2 => .of_eq (by rw [put_osE, took_os])⟩
                    · cases hap
                  · split at hap
                    · split at hap
                      · rename_i k0 off len
                        split at hap
                        · split at hap
                          · cases hap
                            refine ⟨fun t h1 h2 => by rw [put_get h1], fun k h1 h2 => ?_⟩
                            rw [put_osE]
                            exact same_set fun e => h2 (by simp [unitsOf, refs, e])
                          · cases hap
                        · cases hap
                      · split at hap
                        · cases hap; exact ⟨fun t h1 h2 => by rw [put_get h1, took_get h2], fun k h1 h2 => .of_eq (by rw [put_osE, took_os])⟩
                        · cases hap
                      · cases hap
                    · cases hap
              · cases hap
            · cases h
          · cases h
        · cases h
      | _ => simp [isN] at hN
    | value f =>
      simp only [stepO] at h
      split at h
      · rename_i fid av hc
        split at h
        · rename_i res hm
          simp only [Option.some.injEq] at h
          exact calls fid av _ res hc (by simp only [touch, hc] <;> try (cases H.mode fid <;> rfl)) hm h
        · cases h
      · cases h
    | invoke r m =>
      simp only [stepO] at h
      split at h
      · rename_i fid av hc
        split at h
        · rename_i res hm
          simp only [Option.some.injEq] at h
          exact calls fid av _ res hc (by simp only [touch, hc] <;> try (cases H.mode fid <;> rfl)) hm h
        · cases h
      · cases h
  | _ => simp [isN] at hN
end
end Go.Am
namespace Go.Am
variable [Env]
section
variable [Base]
variable (P : Program) (H : Hints)

/-- how a region that draws its order is gone through: lookers and doers that don't wait for one another; behind a doer, lookers that don't wait for it -/
structure Plan where
  pairs : List (Nat × Nat)
  /-- new things beside calls that share nothing -/
  news : List (Nat × Nat)
  free : List (Nat × List Nat)
  deriving Inhabited
def inP (i j : Nat) : List (Nat × Nat) → Bool
  | [] => false
  | (a, b) :: l => (Nat.beq a i && Nat.beq b j) || inP i j l
def inN (i : Nat) : List Nat → Bool
  | [] => false
  | a :: l => Nat.beq a i || inN i l
def freeOf (i : Nat) : List (Nat × List Nat) → List Nat
  | [] => []
  | (a, l) :: m => if Nat.beq a i then l else freeOf i m
def apartM (R : List Nat) (W : List Nat) (os : OS) : Bool := R.all fun u => hasU os u && !inN u W
def chkW (pl : Plan) (i : Nat) (R : List Nat) : List (Nat × List Nat × OS) → Bool
  | [] => true
  | (j, W, os) :: ws => (!inP i j pl.pairs || apartM R W os) && chkW pl i R ws
def chkR (pl : Plan) (j : Nat) (W : List Nat) (os : OS) : List (Nat × List Nat) → Bool
  | [] => true
  | (i, R) :: rs => (!inP i j pl.pairs || apartM R W os) && chkR pl j W os rs
/-- a call that shares nothing -/
def quiet (s : St) (o : Oper) : Bool := match o.op with
  | .call { callee := .builtin _, .. } => false
  | .call c => match calleeOf P s c with
    | some (f, _) => Nat.beq (H.mode f) 0
    | none => false
  | _ => false
def isNew (o : Oper) : Bool := match o.op with
  | .alloc .. | .box .. => true
  | _ => false
def isCall (o : Oper) : Bool := match o.op with
  | .call { callee := .value _, .. } => true
  | .call { callee := .invoke _ _, .. } => true
  | _ => false
/-- a new thing, behind calls that it doesn't wait for -/
def chkN (pl : Plan) (i : Nat) : List (Nat × Bool) → Bool
  | [] => true
  | (j, q) :: qs => (!inP i j pl.news || q) && chkN pl i qs
/-- behind a panic: what might have come up ahead of it -/
def runF (pl : Plan) (fr : List Nat) (ops : Array Oper) (ws : List (Nat × List Nat × OS)) : List Oper → Nat → St → Bool
  | [], _, _ => true
  | o :: l, i, s => if inN i fr then match wantedA ops s o with
      | some true => if isV o then match stepV P s o.op with
          | some v => chkW pl i (unitsV s o) ws && runF pl fr ops ws l (i + 1) (put s o.dst v)
          | none => false
        else false
      | some false => runF pl fr ops ws l (i + 1) (put s o.dst (.tup []))
      | none => false
    else runF pl fr ops ws l (i + 1) s
def dsts (ops : Array Oper) : List Tmp := ops.toList.filterMap (·.dst)
def runD (st : Oper → St → Option R1) (pl : Plan) (ops : Array Oper) : List Oper → Nat → St → List (Nat × List Nat) → List (Nat × List Nat × OS) → List (Nat × Bool) → Option Out
  | [], _, s, _, _, _ => some (.norm s)
  | o :: l, i, s, rs, ws, qs => match wantedA ops s o with
    | some true =>
      if isV o then match stepV P s o.op with
        | some v => if chkW pl i (unitsV s o) ws then runD st pl ops l (i + 1) (put s o.dst v) ((i, unitsV s o) :: rs) ws qs else none
        | none => none
      else match st o s with
        | some (.ok s') => if chkR pl i (touch P H s o) s.os rs && chkN pl i qs then runD st pl ops l (i + 1) s' rs ((i, touch P H s o, s.os) :: ws) ((i, quiet P H s o) :: qs) else none
        | some (.pan v s') => if runF P pl (freeOf i pl.free) ops ws l (i + 1) s then some (.pan v { s' with slots := wipe s'.slots (dsts ops) }) else none
        | none => none
    | some false => runD st pl ops l (i + 1) (put s o.dst (.tup [])) rs ws qs
    | none => none

/-- for whom an operation waits -/
def maskOf (ms : List Nat) (o : Oper) : Nat := o.after.toList.foldl (fun m e => if Region.binds .any e then m ||| ms.getD e.on 0 ||| (1 <<< e.on) else m) 0
def masks : List Oper → List Nat → List Nat
  | [], ms => ms
  | o :: l, ms => masks l (ms ++ [maskOf ms o])
def meet (l m : List Tmp) : Bool := l.any fun t => inN t m
/-- two operations that don't wait for one another -/
def pairOK (pl : Plan) (ops : Array Oper) (i j : Nat) (a b : Oper) : Bool :=
  a.apart ops b && !(meet (takes a) (b.looksAt ops)) && !(meet (takes b) (a.looksAt ops)) && (!(isN a && isN b) || (isCall a && isNew b && inP j i pl.news)) &&
  (!(isV a && isN b && (looked a).isSome) || inP i j pl.pairs) && (!(isN a && isV b && (looked b).isSome) || inP j i pl.pairs) &&
  (!(isN a) || inN j (freeOf i pl.free))
def rowOK (pl : Plan) (ops : Array Oper) (ms : List Nat) (j : Nat) (b : Oper) : Nat → List Oper → Bool
  | _, [] => true
  | i, a :: l => (Nat.ble j i || (if (ms.getD j 0).testBit i then !(isN a && inN j (freeOf i pl.free)) else pairOK pl ops i j a b)) && rowOK pl ops ms j b (i + 1) l
def allOK (pl : Plan) (ops : Array Oper) (ms : List Nat) : Nat → List Oper → Bool
  | _, [] => true
  | j, b :: l => (isV b || isN b) && (b.after.toList.all fun e => !Region.binds .any e || Nat.blt e.on j) && rowOK pl ops ms j b 0 ops.toList && allOK pl ops ms (j + 1) l
def planOK (pl : Plan) (ops : Array Oper) : Bool := allOK pl ops (masks ops.toList []) 0 ops.toList
/-- regions that draw their order, each by its plan -/
def drOf (plan : FuncId → Nat → Option Plan) (st : StepFn) : DrawnFn := fun call cx id ops s => match plan cx.f id with
  | some pl => runD P H (st call cx) pl ops ops.toList 0 s [] [] []
  | none => none
def plansOK (plan : FuncId → Nat → Option Plan) (f : FuncId) : Code → Bool
  | .region id ops true => match plan f id with
    | some pl => planOK pl ops
    | none => true
  | .seq a b => plansOK plan f a && plansOK plan f b
  | .cond _ a b => plansOK plan f a && plansOK plan f b
  | .block _ b => plansOK plan f b
  | .loop b => plansOK plan f b
  | _ => true
end
end Go.Am
namespace Go.Am
variable [Env]
section
variable [Base]
variable {P : Program} {H : Hints} {cx : Cx} {call : CallFn} {ops : Array Oper}

/-- one operation of a region, as it was gone through -/
structure It where
  i : Nat
  o : Oper
  n : Bool
  v : AV
  R : List Nat
  need : List Nat
  q : Bool

def StepIt (P : Program) (H : Hints) (call : CallFn) (cx : Cx) (ops : Array Oper) (x : It) (s s' : St) : Prop :=
  (x.n = true ∧ isN x.o = true ∧ wantedA ops s x.o = some true ∧ stepO P H call cx x.o s = some (.ok s') ∧ touch P H s x.o = x.R ∧ (∀ u ∈ x.need, hasU s.os u = true) ∧ (x.q = true → quiet P H s x.o = true)) ∨
  (x.n = false ∧ s' = put s x.o.dst x.v ∧ ((wantedA ops s x.o = some true ∧ isV x.o = true ∧ stepV P s x.o.op = some x.v ∧ unitsV s x.o = x.R) ∨ (wantedA ops s x.o = some false ∧ x.v = .tup [])))

/-- two states that an operation sees alike -/
def SameSl (ops : Array Oper) (o : Oper) (s s2 : St) : Prop := ∀ t ∈ o.looksAt ops, s2.slots.get t = s.slots.get t
theorem opTmps_looks {o : Oper} {t : Tmp} (h : t ∈ opTmps o) : t ∈ o.looksAt ops := List.mem_append_left _ h
theorem SameSl.sops {o : Oper} {s s2 : St} (h : SameSl ops o s s2) : SameOps o s s2 := by
  intro x hx
  cases x with
  | tmp t => exact h t (opTmps_looks (List.mem_filterMap.2 ⟨.tmp t, by simpa using hx, rfl⟩))
  | _ => rfl
theorem SameSl.wanted {o : Oper} {s s2 : St} (h : SameSl ops o s s2) : wantedA ops s2 o = wantedA ops s o := by
  unfold wantedA
  cases hg : o.guard with
  | none => rfl
  | some gw =>
    obtain ⟨j, want⟩ := gw
    simp only
    cases hd : (ops[j]?).bind (·.dst) with
    | none => rfl
    | some d =>
      simp only
      rw [h d (by unfold Oper.looksAt; rw [hg]; exact List.mem_append_right _ (by show d ∈ ((ops[j]?).bind fun x => x.dst).toList; rw [hd]; simp))]
theorem SameSl.put {o : Oper} {s : St} {d : Option Tmp} {v : AV} (h : ∀ t, d = some t → t ∉ o.looksAt ops) : SameSl ops o s (put s d v) := by
  intro t ht
  exact put_get fun e => h t e ht
theorem blind_of {o : Oper} {d : Option Tmp} (h : ∀ t, d = some t → t ∉ o.looksAt ops) : Blind d o := fun t ht hm => h t ht (opTmps_looks hm)

theorem touch_same {s s2 : St} {o : Oper} (h : SameOps o s s2) (hos : s2.os = s.os) : touch P H s2 o = touch P H s o := by
  obtain ⟨dst, op, ty, pos, after, guard⟩ := o
  unfold SameOps at h
  cases op with
  | store t a x => simp only [Op.operands] at h; simp only [touch, h a (by simp)]
  | call c =>
    obtain ⟨callee, args, ts⟩ := c
    simp only [Op.operands] at h
    cases callee with
    | builtin b =>
      cases b with
      | append =>
        simp only [touch]
        cases hl : args.toList with
        | nil => rfl
        | cons x xs =>
          simp only
          have m1 : x ∈ args := by rw [← Array.mem_toList_iff, hl]; simp
          rw [h x (by simp only [Call.operands, Array.mem_append]; exact .inr m1)]
      | _ => rfl
    | value f => simp only [touch, calleeOf_put (P := P) (c := ⟨.value f, args, ts⟩) h, hos]
    | invoke r m => simp only [touch, calleeOf_put (P := P) (c := ⟨.invoke r m, args, ts⟩) h, hos]
  | _ => rfl
theorem quiet_same {s s2 : St} {o : Oper} (h : SameOps o s s2) : quiet P H s2 o = quiet P H s o := by
  obtain ⟨dst, op, ty, pos, after, guard⟩ := o
  unfold SameOps at h
  cases op with
  | call c =>
    obtain ⟨callee, args, ts⟩ := c
    simp only [Op.operands] at h
    cases callee with
    | builtin b => rfl
    | value f => simp only [quiet, calleeOf_put (P := P) (c := ⟨.value f, args, ts⟩) h]
    | invoke r m => simp only [quiet, calleeOf_put (P := P) (c := ⟨.invoke r m, args, ts⟩) h]
  | _ => rfl
theorem unitsV_same {s s2 : St} {o : Oper} (h : SameOps o s s2) : unitsV s2 o = unitsV s o := by
  obtain ⟨dst, op, ty, pos, after, guard⟩ := o
  unfold SameOps at h
  cases op with
  | load t x => simp only [Op.operands] at h; simp only [unitsV, looked, h x (by simp)]
  | indexAddr t x i => simp only [Op.operands] at h; simp only [unitsV, looked, h x (by simp)]
  | slice t x a b c => simp only [Op.operands] at h; simp only [unitsV, looked, h x (by simp)]
  | lookup t x i b => simp only [Op.operands] at h; simp only [unitsV, looked, h x (by simp)]
  | call c =>
    obtain ⟨callee, args, ts⟩ := c
    simp only [Op.operands] at h
    cases callee with
    | builtin b =>
      cases b with
      | len =>
        simp only [unitsV, looked]
        cases hl : args[0]? with
        | none => rfl
        | some x =>
          simp only
          rw [h x (by simp only [Call.operands, Array.mem_append]; exact .inr (Array.mem_of_getElem? hl))]
      | _ => rfl
    | _ => rfl
  | _ => rfl

/-- an operation that looks does so from elsewhere, too -/
theorem StepIt.look {x : It} {s s' s2 : St} (hn : x.n = false) (hs : SameSl ops x.o s s2) (hm : ∀ u ∈ x.R, ∀ k, k / 64 = u → SameM s.os s2.os k) (h : StepIt P H call cx ops x s s') : StepIt P H call cx ops x s2 (put s2 x.o.dst x.v) := by
  rcases h with ⟨h, _⟩ | ⟨_, _, h⟩
  · rw [hn] at h; cases h
  · refine .inr ⟨hn, rfl, ?_⟩
    rcases h with ⟨h1, h2, h3, h4⟩ | ⟨h1, h2⟩
    · exact .inl ⟨by rw [hs.wanted]; exact h1, h2, by rw [stepV_same hs.sops (by rw [h4]; exact hm)]; exact h3, by rw [unitsV_same hs.sops]; exact h4⟩
    · exact .inr ⟨by rw [hs.wanted]; exact h1, h2⟩
theorem StepIt.doPut {y : It} {s s' : St} {d : Option Tmp} {v : AV} (hn : y.n = true) (hb : ∀ t, d = some t → t ∉ y.o.looksAt ops) (hd : ∀ t, d = some t → y.o.dst ≠ some t) (h : StepIt P H call cx ops y s s') : StepIt P H call cx ops y (put s d v) (put s' d v) := by
  rcases h with ⟨_, h1, h2, h3, h4, h5, h6⟩ | ⟨h, _⟩
  · have hs : SameSl ops y.o s (put s d v) := SameSl.put hb
    refine .inl ⟨hn, h1, by rw [hs.wanted]; exact h2, ?_, by rw [touch_same hs.sops put_osE]; exact h4, by rw [put_osE]; exact h5, by rw [quiet_same hs.sops]; exact h6⟩
    rw [stepO_put h1 (blind_of hb) hd, h3]; rfl
  · rw [hn] at h; cases h
theorem StepIt.unPut {y : It} {s s2 : St} {d : Option Tmp} {v : AV} (hn : y.n = true) (hb : ∀ t, d = some t → t ∉ y.o.looksAt ops) (hd : ∀ t, d = some t → y.o.dst ≠ some t) (h : StepIt P H call cx ops y (put s d v) s2) : ∃ s', StepIt P H call cx ops y s s' ∧ s2 = put s' d v := by
  rcases h with ⟨_, h1, h2, h3, h4, h5, h6⟩ | ⟨h, _⟩
  · have hs : SameSl ops y.o s (put s d v) := SameSl.put hb
    rw [stepO_put h1 (blind_of hb) hd] at h3
    cases hr : stepO P H call cx y.o s with
    | none => rw [hr] at h3; cases h3
    | some r =>
      rw [hr] at h3
      cases r with
      | ok s' =>
        simp only [Option.map_some, putR, Option.some.injEq, R1.ok.injEq] at h3
        exact ⟨s', .inl ⟨hn, h1, by rw [← hs.wanted]; exact h2, hr, by rw [← touch_same hs.sops (put_osE (v := v))]; exact h4, by rw [put_osE] at h5; exact h5, by rw [← quiet_same hs.sops]; exact h6⟩, h3.symm⟩
      | pan c s' => simp [putR] at h3
  · rw [hn] at h; cases h

/-- two operations that don't wait for one another -/
structure Ind (ops : Array Oper) (x y : It) : Prop where
  ap : x.o.apart ops y.o = true
  t1 : ∀ t ∈ takes x.o, t ∉ y.o.looksAt ops
  t2 : ∀ t ∈ takes y.o, t ∉ x.o.looksAt ops
  nn : x.n = true → y.n = true → isCall x.o = true ∧ isNew y.o = true ∧ x.q = true
  vn : x.n = false → y.n = true → ∀ u ∈ x.R, u ∈ y.need ∧ u ∉ y.R
  nv : x.n = true → y.n = false → ∀ u ∈ y.R, u ∈ x.need ∧ u ∉ x.R

/-! ### a new thing, beside a call that shares nothing -/
theorem add_get {add os : OS} {k : Nat} (h : getObj add k = none) : getObj (add ++ os) k = getObj os k := by rw [app_get, h]
theorem set_add {add : OS} {k : Nat} {o : Obj} : ∀ {os : OS}, getObj add k = none → setObj (add ++ os) k o = add ++ setObj os k o := by
  induction add with
  | nil => intro os _; rfl
  | cons e m ih =>
    intro os h
    obtain ⟨j, x⟩ := e
    rw [getObj_cons] at h
    split at h
    · cases h
    · rename_i hne
      show setObj ((j, x) :: (m ++ os)) k o = _
      simp only [setObj]
      rw [if_neg (by simpa using hne), ih h]
      rfl
theorem share_add {add os : OS} {k : Nat} (h : getObj add k = none) : share (add ++ os) k = add ++ share os k := by
  unfold share
  rw [add_get h]
  split
  · exact set_add h
  · rfl
theorem rowAt_add {add os : OS} {k off len : Nat} (h : getObj add k = none) : rowAt (add ++ os) k off len = rowAt os k off len := by
  unfold rowAt; rw [add_get h]
mutual
theorem frz_add (add : OS) : ∀ (v : AV) {os os' : OS} {x : PV}, (∀ k o, getObj os k = some o → getObj add k = none) → frz os v = some (x, os') → frz (add ++ os) v = some (x, add ++ os')
  | .p x, os, os', y, ha, h => by cases h; rfl
  | .fresh sz xs, os, os', y, ha, h => by cases h; rfl
  | .row k off len, os, os', y, ha, h => by
    simp only [frz] at h ⊢
    split at h
    · rename_i sz xs hr
      have hk : getObj add k = none := by
        unfold rowAt at hr
        split at hr
        · rename_i hg; exact ha k _ hg
        · cases hr
      cases h
      rw [rowAt_add hk, hr, share_add hk]
    · cases h
  | .agg cs, os, os', y, ha, h => by
    simp only [frz] at h ⊢
    split at h
    · rename_i xs os1 h1; cases h; rw [frzs_add add cs ha h1]
    · cases h
  | .ifc t x, os, os', y, ha, h => by
    simp only [frz] at h ⊢
    split at h
    · rename_i xs os1 h1; cases h; rw [frz_add add x ha h1]
    · cases h
  | .fn f cap, os, os', y, ha, h => by
    cases cap with
    | nil => simp only [frz] at h ⊢; cases h; rfl
    | cons a b => simp [frz] at h
  | .ptr _ _, os, os', y, ha, h => by simp [frz] at h
  | .eptr _ _ _ _, os, os', y, ha, h => by simp [frz] at h
  | .elem _ _, os, os', y, ha, h => by simp [frz] at h
  | .uniq _ _, os, os', y, ha, h => by simp [frz] at h
  | .mp _, os, os', y, ha, h => by simp [frz] at h
  | .tup _, os, os', y, ha, h => by simp [frz] at h
  | .undef, os, os', y, ha, h => by simp [frz] at h
theorem frzs_add (add : OS) : ∀ (vs : List AV) {os os' : OS} {xs : List PV}, (∀ k o, getObj os k = some o → getObj add k = none) → frzs os vs = some (xs, os') → frzs (add ++ os) vs = some (xs, add ++ os')
  | [], os, os', xs, ha, h => by simp only [frzs] at h ⊢; cases h; rfl
  | v :: vs, os, os', xs, ha, h => by
    simp only [frzs] at h ⊢
    split at h
    · rename_i y os1 h1
      split at h
      · rename_i ys os2 h2
        cases h
        have ha1 : ∀ k o, getObj os1 k = some o → getObj add k = none := by
          intro k o ho
          have m := (frz_marks v h1).1 k
          unfold SameM at m
          cases hg : getObj os k with
          | none => rw [hg, ho] at m; cases m
          | some o' => exact ha k o' hg
        rw [frz_add add v ha h1]
        simp only
        rw [frzs_add add vs ha1 h2]
      · cases h
    · cases h
end
theorem frzArg_add {add os os' : OS} {v x : AV} (ha : ∀ k o, getObj os k = some o → getObj add k = none) (h : frzArg os v = some (x, os')) : frzArg (add ++ os) v = some (x, add ++ os') := by
  unfold frzArg at h ⊢
  split at h
  · cases h; rfl
  · cases h; rfl
  · split at h
    · rename_i hf
      cases h
      rw [frz_add add _ ha hf]
    · cases h
theorem frzArgs_add {add : OS} : ∀ {vs : List AV} {os os' : OS} {xs : List AV}, (∀ k o, getObj os k = some o → getObj add k = none) → frzArgs os vs = some (xs, os') → frzArgs (add ++ os) vs = some (xs, add ++ os')
  | [], os, os', xs, ha, h => by simp only [frzArgs] at h ⊢; cases h; rfl
  | v :: vs, os, os', xs, ha, h => by
    simp only [frzArgs] at h ⊢
    split at h
    · rename_i y os1 h1
      split at h
      · rename_i ys os2 h2
        cases h
        have ha1 : ∀ k o, getObj os1 k = some o → getObj add k = none := by
          intro k o ho
          have m := (frzArg_marks h1).1 k
          unfold SameM at m
          cases hg : getObj os k with
          | none => rw [hg, ho] at m; cases m
          | some o' => exact ha k o' hg
        rw [frzArg_add ha h1]
        simp only
        rw [frzArgs_add ha1 h2]
      · cases h
    · cases h

/-- the keys are the same -/
theorem setObj_keys (k : Nat) (o : Obj) : ∀ os : OS, (setObj os k o).map (·.1) = os.map (·.1)
  | [] => rfl
  | (j, x) :: m => by
    simp only [setObj]
    split
    · rfl
    · simp [setObj_keys k o m]
theorem share_keys (os : OS) (k : Nat) : (share os k).map (·.1) = os.map (·.1) := by
  unfold share
  split
  · exact setObj_keys _ _ _
  · rfl
mutual
theorem frz_keys : ∀ (v : AV) {os os' : OS} {x : PV}, frz os v = some (x, os') → os'.map (·.1) = os.map (·.1)
  | .p x, os, os', y, h => by cases h; rfl
  | .fresh sz xs, os, os', y, h => by cases h; rfl
  | .row k off len, os, os', y, h => by
    simp only [frz] at h
    split at h
    · cases h; exact share_keys os k
    · cases h
  | .agg cs, os, os', y, h => by
    simp only [frz] at h
    split at h
    · rename_i xs os1 h1; cases h; exact frzs_keys cs h1
    · cases h
  | .ifc t x, os, os', y, h => by
    simp only [frz] at h
    split at h
    · rename_i xs os1 h1; cases h; exact frz_keys x h1
    · cases h
  | .fn f cap, os, os', y, h => by
    cases cap with
    | nil => simp only [frz] at h; cases h; rfl
    | cons a b => simp [frz] at h
  | .ptr _ _, os, os', y, h => by simp [frz] at h
  | .eptr _ _ _ _, os, os', y, h => by simp [frz] at h
  | .elem _ _, os, os', y, h => by simp [frz] at h
  | .uniq _ _, os, os', y, h => by simp [frz] at h
  | .mp _, os, os', y, h => by simp [frz] at h
  | .tup _, os, os', y, h => by simp [frz] at h
  | .undef, os, os', y, h => by simp [frz] at h
theorem frzs_keys : ∀ (vs : List AV) {os os' : OS} {xs : List PV}, frzs os vs = some (xs, os') → os'.map (·.1) = os.map (·.1)
  | [], os, os', xs, h => by simp only [frzs] at h; cases h; rfl
  | v :: vs, os, os', xs, h => by
    simp only [frzs] at h
    split at h
    · rename_i y os1 h1
      split at h
      · rename_i ys os2 h2
        cases h
        exact (frzs_keys vs h2).trans (frz_keys v h1)
      · cases h
    · cases h
end
theorem frzArgs_keys : ∀ {vs : List AV} {os os' : OS} {xs : List AV}, frzArgs os vs = some (xs, os') → os'.map (·.1) = os.map (·.1)
  | [], os, os', xs, h => by simp only [frzArgs] at h; cases h; rfl
  | v :: vs, os, os', xs, h => by
    simp only [frzArgs] at h
    split at h
    · rename_i y os1 h1
      split at h
      · rename_i ys os2 h2
        cases h
        refine (frzArgs_keys h2).trans ?_
        unfold frzArg at h1
        split at h1
        · cases h1; rfl
        · cases h1; rfl
        · split at h1
          · rename_i hf; cases h1; exact frz_keys _ hf
          · cases h1
      · cases h
    · cases h
theorem any_keys {os os' : OS} (h : os'.map (·.1) = os.map (·.1)) (f : Nat → Bool) : os'.any (fun e => f e.1) = os.any (fun e => f e.1) := by
  have e : ∀ l : OS, l.any (fun e => f e.1) = (l.map (·.1)).any f := fun l => by rw [List.any_map]; rfl
  rw [e, e, h]
theorem maxU_keys : ∀ {os os' : OS}, os'.map (·.1) = os.map (·.1) → maxU os' = maxU os
  | [], [], _ => rfl
  | [], e :: m, h => by simp at h
  | e :: m, [], h => by simp at h
  | (j, x) :: m, (j', x') :: m', h => by
    simp only [List.map_cons, List.cons.injEq] at h
    simp only [maxU, maxU_keys h.2, h.1]
theorem freeU_keys {os os' : OS} (h : os'.map (·.1) = os.map (·.1)) (u : Nat) : freeU os' u = freeU os u := by
  unfold freeU
  rw [any_keys h (fun k => k / 64 == u), maxU_keys h]
theorem rowCells_app {f k d : Nat} : ∀ (cs : List AV) (j : Nat) (os : OS), rowCells H f k d j cs os = ((rowCells H f k d j cs []).1, (rowCells H f k d j cs []).2 ++ os)
  | [], j, os => rfl
  | c :: cs, j, os => by
    simp only [rowCells]
    rw [rowCells_app cs (j + 1) os]
    split
    · rfl
    · rfl

theorem newCells_is {s s' : St} {e : Tmp} {cs : List AV} (h : newCells H cx s e cs = some s') : ∃ add, (∀ os, os.map (·.1) = s.os.map (·.1) → ∀ sl df, newCells H cx ⟨sl, os, df⟩ e cs = some ⟨sl.set e (.ptr (newUnit cx s.os e * 64) 0), add ++ os, df⟩) ∧ (∀ k o, getObj s.os k = some o → getObj add k = none) := by
  unfold newCells at h
  simp only at h
  split at h
  · rename_i hc
    rw [rowCells_app] at hc
    refine ⟨(newUnit cx s.os e * 64, .cells (rowCells H cx.f (newUnit cx s.os e * 64) e 0 cs []).1) :: (rowCells H cx.f (newUnit cx s.os e * 64) e 0 cs []).2, fun os hk sl df => ?_, fun k o ho => ?_⟩
    · unfold newCells
      simp only
      have hu : newUnit cx os e = newUnit cx s.os e := freeU_keys hk _
      rw [hu, rowCells_app]
      simp only
      rw [if_pos hc]
      rfl
    · have hl : cs.length < 63 := by have := hc.2; rw [rowCells_len] at this; exact this
      have hne : k / 64 ≠ newUnit cx s.os e := by
        intro he
        have h1 := hasU_free s.os (unitOf cx e)
        rw [show freeU s.os (unitOf cx e) = k / 64 from he.symm] at h1
        have := any_get ho
        unfold hasU at h1
        rw [this] at h1; cases h1
      have h2 := rowCells_same (H := H) (f := cx.f) (d := e) (u := newUnit cx s.os e) rfl (cs := cs) (j := 0) (os := []) (by omega) k hne
      unfold SameM at h2
      rw [getObj_cons, if_neg (fun e => hne (by rw [← e, Nat.mul_div_cancel _ (by decide)]))]
      cases hg : getObj (rowCells H cx.f (newUnit cx s.os e * 64) e 0 cs []).2 k with
      | none => rfl
      | some o' => rw [hg] at h2; cases h2
  · cases h
end
end Go.Am
namespace Go.Am
variable [Env]
section
variable [Base]
variable {P : Program} {H : Hints} {cx : Cx} {call : CallFn} {ops : Array Oper}

theorem hasU_keys {os os' : OS} (h : os'.map (·.1) = os.map (·.1)) (u : Nat) : hasU os' u = hasU os u := any_keys h (fun k => k / 64 == u)

theorem quiet_is {s s' : St} {o : Oper} (hq : quiet P H s o = true) (h : stepO P H call cx o s = some (.ok s')) :
    ∃ os' v, s' = put { s with os := os' } o.dst v ∧ os'.map (·.1) = s.os.map (·.1) ∧ (∀ k, SameM s.os os' k) ∧ touch P H s o = [] ∧
      ∀ (s2 : St) (add : OS), SameOps o s s2 → s2.os = add ++ s.os → (∀ k x, getObj s.os k = some x → getObj add k = none) →
        stepO P H call cx o s2 = some (.ok (put { s2 with os := add ++ os' } o.dst v)) ∧ touch P H s2 o = [] := by
  obtain ⟨dst, op, ty, pos, after, guard⟩ := o
  have main : ∀ (f : FuncId) (args : List AV) (u : Nat) (res : Res), H.mode f = 0 → modeCall H call u s.os f args = some res → fin s dst res = .ok s' →
      ∃ os' v, s' = put { s with os := os' } dst v ∧ os'.map (·.1) = s.os.map (·.1) ∧ (∀ k, SameM s.os os' k) ∧
      ∀ (s2 : St) (add : OS), s2.os = add ++ s.os → (∀ k x, getObj s.os k = some x → getObj add k = none) →
        ∃ res2, modeCall H call u s2.os f args = some res2 ∧ fin s2 dst res2 = .ok (put { s2 with os := add ++ os' } dst v) := by
    intro f args u res hm h hfin
    simp only [modeCall, hm] at h
    cases hf : frzArgs s.os args with
    | none => rw [hf] at h; cases h
    | some ao =>
      obtain ⟨av, os'⟩ := ao
      rw [hf] at h
      simp only at h
      cases hr : call f av [] 0 with
      | none => rw [hr] at h; cases h
      | some r =>
        rw [hr] at h
        cases r with
        | pan v os2 =>
          simp only at h
          split at h
          · cases h; cases hfin
          · cases h
        | ret v os2 =>
          simp only at h
          cases ho : outM (H.rows f 1) os2 v with
          | none => rw [ho] at h; cases h
          | some vo =>
            obtain ⟨v', os3⟩ := vo
            rw [ho] at h
            simp only [Option.some.injEq] at h
            subst h
            simp only [fin, R1.ok.injEq] at hfin
            refine ⟨os', v', hfin.symm, frzArgs_keys hf, (frzArgs_marks hf).1, fun s2 add h2 h3 => ⟨.ret v' (add ++ os'), ?_, rfl⟩⟩
            simp only [modeCall, hm, h2, frzArgs_add h3 hf, hr, ho]
  cases op with
  | call c =>
    obtain ⟨callee, args, ts⟩ := c
    cases callee with
    | builtin b => simp [quiet] at hq
    | value f =>
      simp only [quiet] at hq
      simp only [stepO] at h
      split at h
      · rename_i fid av hcal
        rw [hcal] at hq
        have hm : H.mode fid = 0 := Nat.eq_of_beq_eq_true hq
        split at h
        · rename_i res hmc
          obtain ⟨os', v, h1, h2, h3, h6⟩ := main fid av _ res hm hmc (by simpa using h)
          refine ⟨os', v, h1, h2, h3, by simp only [touch, hcal, hm], fun s2 add e1 e2 e3 => ?_⟩
          have hcal2 : calleeOf P s2 ⟨.value f, args, ts⟩ = some (fid, av) := by rw [calleeOf_put (P := P) (c := ⟨.value f, args, ts⟩) (s := s) (s2 := s2) e1]; exact hcal
          obtain ⟨res2, h7, h8⟩ := h6 s2 add e2 e3
          refine ⟨by simp only [stepO, hcal2, h7, h8], by simp only [touch, hcal2, hm]⟩
        · cases h
      · cases h
    | invoke r m =>
      simp only [quiet] at hq
      simp only [stepO] at h
      split at h
      · rename_i fid av hcal
        rw [hcal] at hq
        have hm : H.mode fid = 0 := Nat.eq_of_beq_eq_true hq
        split at h
        · rename_i res hmc
          obtain ⟨os', v, h1, h2, h3, h6⟩ := main fid av _ res hm hmc (by simpa using h)
          refine ⟨os', v, h1, h2, h3, by simp only [touch, hcal, hm], fun s2 add e1 e2 e3 => ?_⟩
          have hcal2 : calleeOf P s2 ⟨.invoke r m, args, ts⟩ = some (fid, av) := by rw [calleeOf_put (P := P) (c := ⟨.invoke r m, args, ts⟩) (s := s) (s2 := s2) e1]; exact hcal
          obtain ⟨res2, h7, h8⟩ := h6 s2 add e2 e3
          refine ⟨by simp only [stepO, hcal2, h7, h8], by simp only [touch, hcal2, hm]⟩
        · cases h
      · cases h
  | _ => simp [quiet] at hq

/-- what makes a new thing -/
theorem new_is {s s' : St} {o : Oper} (hn : isNew o = true) (h : stepO P H call cx o s = some (.ok s')) : ∃ e cs, o.dst = some e ∧ newCells H cx s e cs = some s' ∧
    ∀ (s2 s2' : St), SameOps o s s2 → newCells H cx s2 e cs = some s2' → stepO P H call cx o s2 = some (.ok s2') := by
  obtain ⟨dst, op, ty, pos, after, guard⟩ := o
  cases op with
  | alloc t =>
    simp only [stepO] at h
    split at h
    · rename_i z d hz
      split at h
      · rename_i s1 hc
        cases h
        refine ⟨d, cellsOf z, rfl, hc, fun s2 s2' _ h2 => ?_⟩
        simp only [stepO, hz, h2]
      · cases h
    · cases h
  | box t x =>
    simp only [stepO] at h
    split at h
    · rename_i v d hv
      split at h
      · rename_i s1 hc
        cases h
        refine ⟨d, cps (cellsOf v), rfl, hc, fun s2 s2' hs h2 => ?_⟩
        have hx : ev1 s2 x = ev1 s x := hs x (by simp [Op.operands])
        simp only [stepO, hx, hv, h2]
      · cases h
    · cases h
  | _ => simp [isNew] at hn

theorem touch_new {s : St} {o : Oper} (hn : isNew o = true) : touch P H s o = [] := by
  obtain ⟨dst, op, ty, pos, after, guard⟩ := o
  cases op with
  | alloc => rfl
  | box => rfl
  | _ => simp [isNew] at hn
theorem quiet_new {s : St} {o : Oper} (hn : isNew o = true) : quiet P H s o = false := by
  obtain ⟨dst, op, ty, pos, after, guard⟩ := o
  cases op with
  | alloc => rfl
  | box => rfl
  | _ => simp [isNew] at hn

theorem swap_new {x y : It} {s s1 s2 : St} (hxn : x.n = true) (hyn : y.n = true) (I : Ind ops x y) (hx : StepIt P H call cx ops x s s1) (hy : StepIt P H call cx ops y s1 s2) :
    ∃ s1', StepIt P H call cx ops y s s1' ∧ StepIt P H call cx ops x s1' s2 := by
  obtain ⟨_, hnew, hq⟩ := I.nn hxn hyn
  obtain ⟨a1, a2, a3⟩ := Oper.apart_spec I.ap
  rcases hx with ⟨_, x1, x2, x3, x4, x5, x6⟩ | ⟨h, _⟩
  case inr => rw [hxn] at h; cases h
  rcases hy with ⟨_, y1, y2, y3, y4, y5, y6⟩ | ⟨h, _⟩
  case inr => rw [hyn] at h; cases h
  obtain ⟨os', v, e1, ek, em, et, eg⟩ := quiet_is (x6 hq) x3
  obtain ⟨e, cs, hd, hc, hgo⟩ := new_is hnew y3
  have hsl : SameSl ops y.o s s1 := by
    rw [e1]
    intro t ht
    rw [put_get fun e => a1 t e ht]
  have hsl' : SameSl ops y.o s1 s := fun t ht => (hsl t ht).symm
  obtain ⟨add, f1, f2⟩ := newCells_is hc
  have hos : s1.os = os' := by rw [e1, put_osE]
  have k1 : s.os.map (·.1) = s1.os.map (·.1) := by rw [hos, ek]
  have g1 := f1 s.os k1 s.slots s.dfr
  have g2 := f1 s1.os rfl s1.slots s1.dfr
  have hs2 : s2 = ⟨s1.slots.set e (.ptr (newUnit cx s1.os e * 64) 0), add ++ s1.os, s1.dfr⟩ := by
    rw [show (⟨s1.slots, s1.os, s1.dfr⟩ : St) = s1 from rfl, hc] at g2
    exact Option.some.inj g2
  refine ⟨⟨s.slots.set e (.ptr (newUnit cx s1.os e * 64) 0), add ++ s.os, s.dfr⟩, .inl ⟨hyn, y1, by rw [hsl'.wanted]; exact y2, hgo _ _ hsl'.sops g1, ?_, fun u hu => ?_, fun h => ?_⟩, .inl ⟨hxn, x1, ?_, ?_, ?_, fun u hu => ?_, fun h => ?_⟩⟩
  · rw [touch_new hnew] at y4 ⊢; exact y4
  · rw [hasU_keys k1]; exact y5 u hu
  · rw [quiet_new hnew] at y6; exact absurd (y6 h) (by simp)
  · have : SameSl ops x.o s (put s (some e) (.ptr (newUnit cx s1.os e * 64) 0)) := SameSl.put fun t ht => by cases ht; exact a3 e hd
    have w1 : wantedA ops ⟨s.slots.set e (.ptr (newUnit cx s1.os e * 64) 0), add ++ s.os, s.dfr⟩ x.o = wantedA ops (put s (some e) (.ptr (newUnit cx s1.os e * 64) 0)) x.o := rfl
    rw [w1, this.wanted]; exact x2
  · have hso : SameOps x.o s ⟨s.slots.set e (.ptr (newUnit cx s1.os e * 64) 0), add ++ s.os, s.dfr⟩ := by
      have : SameSl ops x.o s (put s (some e) (.ptr (newUnit cx s1.os e * 64) 0)) := SameSl.put fun t ht => by cases ht; exact a3 e hd
      intro z hz
      have := this.sops z hz
      rw [← this]
      cases z <;> rfl
    obtain ⟨q1, _⟩ := eg ⟨s.slots.set e (.ptr (newUnit cx s1.os e * 64) 0), add ++ s.os, s.dfr⟩ add hso rfl (fun k z hz => by
      have m := em k
      unfold SameM at m
      cases hg : getObj s1.os k with
      | none => rw [hos] at hg; rw [hz, hg] at m; cases m
      | some z' => exact f2 k z' hg)
    rw [q1, hs2]
    congr 2
    rw [e1]
    cases hxd : x.o.dst with
    | none => rfl
    | some d =>
      have hne : d ≠ e := fun he => a2 d hxd (by rw [hd, he])
      simp only [put]
      rw [Slots.set_comm _ _ _ hne]
  · have hso : SameOps x.o s ⟨s.slots.set e (.ptr (newUnit cx s1.os e * 64) 0), add ++ s.os, s.dfr⟩ := by
      have : SameSl ops x.o s (put s (some e) (.ptr (newUnit cx s1.os e * 64) 0)) := SameSl.put fun t ht => by cases ht; exact a3 e hd
      intro z hz
      have := this.sops z hz
      rw [← this]
      cases z <;> rfl
    obtain ⟨_, q2⟩ := eg ⟨s.slots.set e (.ptr (newUnit cx s1.os e * 64) 0), add ++ s.os, s.dfr⟩ add hso rfl (fun k z hz => by
      have m := em k
      unfold SameM at m
      cases hg : getObj s1.os k with
      | none => rw [hos] at hg; rw [hz, hg] at m; cases m
      | some z' => exact f2 k z' hg)
    rw [q2, ← x4, et]
  · have := x5 u hu
    unfold hasU at this ⊢
    rw [List.any_append, this, Bool.or_true]
  · have hso : SameOps x.o s ⟨s.slots.set e (.ptr (newUnit cx s1.os e * 64) 0), add ++ s.os, s.dfr⟩ := by
      have : SameSl ops x.o s (put s (some e) (.ptr (newUnit cx s1.os e * 64) 0)) := SameSl.put fun t ht => by cases ht; exact a3 e hd
      intro z hz
      have := this.sops z hz
      rw [← this]
      cases z <;> rfl
    rw [quiet_same hso]; exact x6 h

theorem swap {x y : It} {s s1 s2 : St} (I : Ind ops x y) (hx : StepIt P H call cx ops x s s1) (hy : StepIt P H call cx ops y s1 s2) :
    ∃ s1', StepIt P H call cx ops y s s1' ∧ StepIt P H call cx ops x s1' s2 := by
  obtain ⟨a1, a2, a3⟩ := Oper.apart_spec I.ap
  have a2' : ∀ t, y.o.dst = some t → x.o.dst ≠ some t := fun t h1 h2 => a2 t h2 h1
  cases hxn : x.n with
  | true =>
    cases hyn : y.n with
    | true => exact swap_new hxn hyn I hx hy
    | false =>
      rcases hx with hx | ⟨h, _⟩
      case inr => rw [hxn] at h; cases h
      obtain ⟨_, x1, x2, x3, x4, x5, x6⟩ := hx
      obtain ⟨f1, f2⟩ := stepO_frame x1 x3
      have hsl : SameSl ops y.o s1 s := fun t ht => (f1 t (fun e => a1 t e ht) (fun e => I.t1 t e ht)).symm
      have hy' := hy
      rcases hy' with ⟨h, _⟩ | ⟨_, e2, _⟩
      · rw [hyn] at h; cases h
      refine ⟨put s y.o.dst y.v, hy.look hyn hsl fun u hu k hk => ?_, ?_⟩
      · obtain ⟨g1, g2⟩ := I.nv hxn hyn u hu
        subst hk
        exact (f2 k (x5 _ g1) (by rw [x4]; exact g2)).symm
      · rw [e2]
        exact StepIt.doPut hxn a3 a2' (.inl ⟨hxn, x1, x2, x3, x4, x5, x6⟩)
  | false =>
    have hx' := hx
    rcases hx' with ⟨h, _⟩ | ⟨_, e1, hx0⟩
    · rw [hxn] at h; cases h
    cases hyn : y.n with
    | true =>
      rw [e1] at hy
      obtain ⟨s1', h1, h2⟩ := StepIt.unPut hyn a1 a2 hy
      refine ⟨s1', h1, ?_⟩
      rw [h2]
      rcases h1 with ⟨_, y1, y2, y3, y4, y5, y6⟩ | ⟨h, _⟩
      case inr => rw [hyn] at h; cases h
      obtain ⟨f1, f2⟩ := stepO_frame y1 y3
      have hsl : SameSl ops x.o s s1' := fun t ht => f1 t (fun e => a3 t e ht) (fun e => I.t2 t e ht)
      refine hx.look hxn hsl fun u hu k hk => ?_
      obtain ⟨g1, g2⟩ := I.vn hxn hyn u hu
      subst hk
      exact f2 k (y5 _ g1) (by rw [y4]; exact g2)
    | false =>
      have hy' := hy
      rcases hy' with ⟨h, _⟩ | ⟨_, e2, _⟩
      · rw [hyn] at h; cases h
      rw [e1] at hy
      have hsl : SameSl ops y.o (put s x.o.dst x.v) s := fun t ht => (SameSl.put a1 t ht).symm
      refine ⟨put s y.o.dst y.v, hy.look hyn hsl fun u hu k hk => .of_eq (by rw [put_osE]), ?_⟩
      have := hx.look hxn (SameSl.put (v := y.v) a3) (fun u hu k hk => .of_eq (by rw [put_osE]))
      rw [e2, e1, put_put a2]
      exact this

def Chain (P : Program) (H : Hints) (call : CallFn) (cx : Cx) (ops : Array Oper) (F : St → Prop) : List It → St → Prop
  | [], s => F s
  | x :: T, s => ∃ s1, StepIt P H call cx ops x s s1 ∧ Chain P H call cx ops F T s1

theorem Chain.move {F : St → Prop} {x : It} {l2 : List It} : ∀ {l1 : List It} {s : St}, (∀ y ∈ l1, Ind ops y x) → Chain P H call cx ops F (l1 ++ x :: l2) s → ∃ s1, StepIt P H call cx ops x s s1 ∧ Chain P H call cx ops F (l1 ++ l2) s1
  | [], s, _, h => h
  | y :: l1, s, hi, h => by
    obtain ⟨sy, h1, h2⟩ := h
    obtain ⟨sx, h3, h4⟩ := Chain.move (l1 := l1) (fun z hz => hi z (by simp [hz])) h2
    obtain ⟨s1', h5, h6⟩ := swap (hi y (by simp)) h1 h3
    exact ⟨s1', h5, sx, h6, h4⟩
end
end Go.Am
namespace Go.Am
variable [Env]
section
variable [Base]
variable {P : Program} {H : Hints} {cx : Cx} {call : CallFn} {ops : Array Oper} {pl : Plan}

def waits (ops : Array Oper) (i j : Nat) : Bool := ((masks ops.toList []).getD i 0).testBit j

theorem foldl_bit (ms : List Nat) (j : Nat) : ∀ (l : List Edge) (m : Nat), (l.foldl (fun m e => if Region.binds .any e then m ||| ms.getD e.on 0 ||| (1 <<< e.on) else m) m).testBit j = true ↔ m.testBit j = true ∨ ∃ e ∈ l, Region.binds .any e = true ∧ ((ms.getD e.on 0).testBit j = true ∨ e.on = j)
  | [], m => by simp
  | e :: l, m => by
    simp only [List.foldl_cons]
    rw [foldl_bit ms j l]
    by_cases hb : Region.binds .any e = true
    · simp only [hb, if_true, Nat.testBit_or, Nat.one_shiftLeft, Nat.testBit_two_pow, Bool.or_eq_true, decide_eq_true_eq, List.mem_cons]
      constructor
      · rintro (((h | h) | h) | ⟨e', h1, h2⟩)
        · exact .inl h
        · exact .inr ⟨e, .inl rfl, hb, .inl h⟩
        · exact .inr ⟨e, .inl rfl, hb, .inr h⟩
        · exact .inr ⟨e', .inr h1, h2⟩
      · rintro (h | ⟨e', h1 | h1, h2, h3⟩)
        · exact .inl (.inl (.inl h))
        · subst h1
          rcases h3 with h3 | h3
          · exact .inl (.inl (.inr h3))
          · exact .inl (.inr h3)
        · exact .inr ⟨e', h1, h2, h3⟩
    · simp only [hb, if_false, List.mem_cons, Bool.false_eq_true]
      constructor
      · rintro (h | ⟨e', h1, h2⟩)
        · exact .inl h
        · exact .inr ⟨e', .inr h1, h2⟩
      · rintro (h | ⟨e', h1 | h1, h2, h3⟩)
        · exact .inl h
        · subst h1; exact absurd h2 hb
        · exact .inr ⟨e', h1, h2, h3⟩
theorem masks_len : ∀ (l : List Oper) (ms : List Nat), (masks l ms).length = ms.length + l.length
  | [], ms => rfl
  | o :: l, ms => by simp only [masks, masks_len l, List.length_append, List.length_cons, List.length_nil]; omega
theorem masks_old : ∀ (l : List Oper) (ms : List Nat) (i : Nat), i < ms.length → (masks l ms).getD i 0 = ms.getD i 0
  | [], ms, i, h => rfl
  | o :: l, ms, i, h => by
    simp only [masks]
    rw [masks_old l _ i (by simp; omega)]
    simp [List.getD_eq_getElem?_getD, List.getElem?_append_left h]
theorem masks_get : ∀ (l : List Oper) (ms : List Nat) (k : Nat) (o : Oper), l[k]? = some o → ∃ ms', (masks l ms).getD (ms.length + k) 0 = maskOf ms' o ∧ ∀ q, q < ms.length + k → ms'.getD q 0 = (masks l ms).getD q 0
  | [], ms, k, o, h => by simp at h
  | a :: l, ms, 0, o, h => by
    simp only [List.getElem?_cons_zero, Option.some.injEq] at h
    subst h
    refine ⟨ms, ?_, fun q hq => ?_⟩
    · simp only [masks]
      rw [masks_old l _ _ (by simp)]
      simp [List.getD_eq_getElem?_getD]
    · simp only [masks]
      rw [masks_old l _ q (by simp; omega)]
      simp only [Nat.add_zero] at hq
      simp [List.getD_eq_getElem?_getD, List.getElem?_append_left hq]
  | a :: l, ms, k + 1, o, h => by
    obtain ⟨ms', h1, h2⟩ := masks_get l (ms ++ [maskOf ms a]) k o (by simpa using h)
    simp only [List.length_append, List.length_cons, List.length_nil] at h1 h2
    refine ⟨ms', ?_, fun q hq => h2 q (by omega)⟩
    simp only [masks]
    rw [← h1]
    congr 1
    omega

structure Laid (pl : Plan) (ops : Array Oper) : Prop where
  kind : ∀ (i : Nat) (o : Oper), ops[i]? = some o → isV o = true ∨ isN o = true
  back : ∀ (i : Nat) (o : Oper), ops[i]? = some o → ∀ e ∈ o.after, Region.binds .any e = true → e.on < i
  pair : ∀ (i j : Nat) (a b : Oper), ops[i]? = some a → ops[j]? = some b → i < j → (waits ops j i = true ∧ ¬ (isN a = true ∧ inN j (freeOf i pl.free) = true)) ∨ (waits ops j i = false ∧ pairOK pl ops i j a b = true)

theorem rowOK_get {ms : List Nat} {j : Nat} {b : Oper} : ∀ {l : List Oper} {i0 : Nat}, rowOK pl ops ms j b i0 l = true → ∀ k a, l[k]? = some a → i0 + k < j →
    if (ms.getD j 0).testBit (i0 + k) then (!(isN a && inN j (freeOf (i0 + k) pl.free))) = true else pairOK pl ops (i0 + k) j a b = true
  | [], i0, h, k, a, hk, _ => by simp at hk
  | x :: l, i0, h, 0, a, hk, hl => by
    simp only [List.getElem?_cons_zero, Option.some.injEq] at hk
    subst hk
    simp only [rowOK, Bool.and_eq_true, Bool.or_eq_true] at h
    rcases h.1 with h1 | h1
    · have := Nat.le_of_ble_eq_true h1; omega
    · simp only [Nat.add_zero]
      split at h1
      · rename_i hw; rw [if_pos hw]; exact h1
      · rename_i hw; rw [if_neg hw]; exact h1
  | x :: l, i0, h, k + 1, a, hk, hl => by
    simp only [rowOK, Bool.and_eq_true] at h
    have := rowOK_get h.2 k a (by simpa using hk) (by omega)
    rw [show i0 + (k + 1) = i0 + 1 + k by omega]
    exact this
theorem allOK_get {ms : List Nat} : ∀ {l : List Oper} {j : Nat}, allOK pl ops ms j l = true → ∀ k b, l[k]? = some b → (isV b = true ∨ isN b = true) ∧ (∀ e ∈ b.after, Region.binds .any e = true → e.on < j + k) ∧ rowOK pl ops ms (j + k) b 0 ops.toList = true
  | [], j, h, k, b, hk => by simp at hk
  | x :: l, j, h, 0, b, hk => by
    simp only [List.getElem?_cons_zero, Option.some.injEq] at hk
    subst hk
    simp only [allOK, Bool.and_eq_true, Bool.or_eq_true, List.all_eq_true, Bool.not_eq_true'] at h
    refine ⟨h.1.1.1, fun e he hb => ?_, h.1.2⟩
    rcases h.1.1.2 e (by simpa using he) with h1 | h1
    · rw [hb] at h1; cases h1
    · simpa using h1
  | x :: l, j, h, k + 1, b, hk => by
    simp only [allOK, Bool.and_eq_true] at h
    have := allOK_get h.2 k b (by simpa using hk)
    rw [show j + (k + 1) = j + 1 + k by omega]
    exact this
theorem laid_of (h : planOK pl ops = true) : Laid pl ops := by
  have key := allOK_get h
  refine ⟨fun i o ho => (key i o (by simpa using ho)).1, fun i o ho => by simpa using (key i o (by simpa using ho)).2.1, fun i j a b ha hb hij => ?_⟩
  have hr := (key j b (by simpa using hb)).2.2
  rw [Nat.zero_add] at hr
  have := rowOK_get hr i a (by simpa using ha) (by omega)
  rw [Nat.zero_add] at this
  unfold waits
  split at this
  · rename_i hw
    left
    exact ⟨hw, fun hh => by rw [hh.1, hh.2] at this; simp at this⟩
  · rename_i hw
    right
    exact ⟨by simpa using hw, this⟩

theorem waits_iff (L : Laid pl ops) {i j : Nat} {o : Oper} (ho : ops[i]? = some o) : waits ops i j = true ↔ ∃ e ∈ o.after, Region.binds .any e = true ∧ (waits ops e.on j = true ∨ e.on = j) := by
  obtain ⟨ms', h1, h2⟩ := masks_get ops.toList [] i o (by simpa using ho)
  simp only [List.length_nil, Nat.zero_add] at h1 h2
  unfold waits
  rw [h1]
  unfold maskOf
  rw [foldl_bit]
  simp only [Nat.zero_testBit, Bool.false_eq_true, false_or, Array.mem_toList_iff]
  constructor
  · rintro ⟨e, he, hb, h⟩
    exact ⟨e, he, hb, by rw [h2 e.on (L.back i o ho e he hb)] at h; exact h⟩
  · rintro ⟨e, he, hb, h⟩
    exact ⟨e, he, hb, by rw [h2 e.on (L.back i o ho e he hb)]; exact h⟩
theorem waits_lt (L : Laid pl ops) : ∀ (i j : Nat), waits ops i j = true → j < i := by
  intro i
  induction i using Nat.strongRecOn with
  | _ i ih =>
    intro j h
    cases ho : ops[i]? with
    | none =>
      exfalso
      unfold waits at h
      have : (masks ops.toList []).length ≤ i := by
        rw [masks_len]
        have := Array.getElem?_eq_none_iff.1 ho
        simpa using this
      rw [List.getD_eq_getElem?_getD, List.getElem?_eq_none this] at h
      simp at h
    | some o =>
      obtain ⟨e, he, hb, h⟩ := (waits_iff L ho).1 h
      have := L.back i o ho e he hb
      rcases h with h | h
      · have := ih e.on this j h; omega
      · omega

/-- where one is in a region: what is left to do -/
structure Left (pl : Plan) (ops : Array Oper) (mo : Option Nat) (listed : Array Bool) (T : List It) : Prop where
  size : listed.size = ops.size
  ok : ∀ x ∈ T, ops[x.i]? = some x.o ∧ listed.getD x.i true = false
  sorted : T.Pairwise fun x y => x.i < y.i
  pairs : T.Pairwise fun x y => waits ops y.i x.i = true ∨ Ind ops x y
  closed : ∀ i j, listed.getD i false = true → waits ops i j = true → listed.getD j false = true
  cover : ∀ k, k < ops.size → listed.getD k true = false → (∃ x ∈ T, x.i = k) ∨ ∃ m, mo = some m ∧ (k = m ∨ waits ops k m = true)
  mun : ∀ m, mo = some m → listed.getD m true = false ∧ ∃ o, ops[m]? = some o
  mind : ∀ m, mo = some m → ∀ x ∈ T, x.i ≠ m ∧ waits ops x.i m = false ∧ (m < x.i → x.n = false)

theorem listed_ex {listed : Array Bool} {i : Nat} (hi : i < listed.size) (h : listed.getD i false = true) : listed.getD i true = true := by
  simp [hi] at h ⊢; exact h
theorem listed_both {listed : Array Bool} {i : Nat} (h : listed.getD i true = false) : listed.getD i false = false ∧ i < listed.size := by
  rcases Nat.lt_or_ge i listed.size with h' | h'
  · simp [h'] at h ⊢; exact h
  · simp [Array.getElem?_eq_none h'] at h

theorem Left.ready_waits {mo : Option Nat} {listed : Array Bool} {T : List It} (L : Laid pl ops) (hL : Left pl ops mo listed T) {i j : Nat} (hr : i ∈ Region.ready .any ops listed) (h : waits ops i j = true) : listed.getD j false = true := by
  obtain ⟨_, o, ho, hall⟩ := mem_ready.1 hr
  obtain ⟨e, he, hb, h⟩ := (waits_iff L ho).1 h
  have h1 := hall e he hb
  rcases h with h | h
  · exact hL.closed _ _ h1 h
  · rw [← h]; exact h1

theorem Left.set {mo : Option Nat} {listed : Array Bool} {l1 l2 : List It} {x : It} (L : Laid pl ops) (hL : Left pl ops mo listed (l1 ++ x :: l2)) (hr : x.i ∈ Region.ready .any ops listed) : Left pl ops mo (listed.setIfInBounds x.i true) (l1 ++ l2) := by
  have hs := List.sublist_append_right l1 l2
  have sub : (l1 ++ l2).Sublist (l1 ++ x :: l2) := List.Sublist.append (List.Sublist.refl l1) (List.sublist_cons_self x l2)
  have hne : ∀ y ∈ l1 ++ l2, y.i ≠ x.i := by
    intro y hy e
    have hp := hL.sorted
    rw [List.pairwise_append] at hp
    rcases List.mem_append.1 hy with hy | hy
    · have := hp.2.2 y hy x (by simp); omega
    · have := (List.pairwise_cons.1 hp.2.1).1 y hy; omega
  refine ⟨by simp [hL.size], fun y hy => ⟨(hL.ok y (sub.subset hy)).1, ?_⟩, hL.sorted.sublist sub, hL.pairs.sublist sub, fun i j hi hw => ?_, fun k hk hl => ?_, fun m hm => ?_, fun m hm y hy => hL.mind m hm y (sub.subset hy)⟩
  · rw [getD_set_ne true (Ne.symm (hne y hy))]; exact (hL.ok y (sub.subset hy)).2
  · by_cases e : x.i = i
    · subst e
      exact getD_set_true (hL.ready_waits L hr hw)
    · rw [getD_set_ne false e] at hi
      exact getD_set_true (hL.closed i j hi hw)
  · by_cases e : x.i = k
    · subst e
      have : (listed.setIfInBounds x.i true).getD x.i true = true := by
        have : x.i < listed.size := by rw [hL.size]; exact hk
        simp [this]
      rw [this] at hl; cases hl
    · rw [getD_set_ne true e] at hl
      rcases hL.cover k hk hl with ⟨y, hy, h⟩ | h
      · left
        refine ⟨y, ?_, h⟩
        rcases List.mem_append.1 hy with hy | hy
        · exact List.mem_append.2 (.inl hy)
        · rcases List.mem_cons.1 hy with rfl | hy
          · exact absurd h e
          · exact List.mem_append.2 (.inr hy)
      · exact .inr h
  · obtain ⟨h1, h2⟩ := hL.mun m hm
    refine ⟨?_, h2⟩
    rw [getD_set_ne true ((hL.mind m hm x (by simp)).1)]
    exact h1
end
end Go.Am
namespace Go.Am
variable [Env]
section
variable [Base]
variable {P : Program} {H : Hints} {B : Nat} {w : World} {g : Gh} {s : St} {a : Act}
variable {cx : Cx} {call : CallFn} {ops : Array Oper} {pl : Plan} {Q : Exit → Act → World → Prop}

/-- an operation, as it was gone through, in the model -/
theorem stepIt_wp (hC : CallOK P call) (hB : B ≤ w.heap.size) {x : It} {s1 : St} (ho : ops[x.i]? = some x.o) (h : StepIt P H call cx ops x s s1) (R : Rel B w g s a) {K : Act → World → Prop}
    (hK : ∀ a' w' g', Rel B w' g' s1 a' → Fr w g w' g' → K a' w') : wpOp P ops Q x.i K a w := by
  unfold wpOp
  rw [ho]
  simp only
  rcases h with ⟨_, _, h2, h3, _⟩ | ⟨_, h1, h2⟩
  · rw [wanted_rel R h2, if_pos rfl]
    exact .inl (stepO_wp hB hC R h3 fun a' w' g' R' F => hK a' w' g' R' F)
  · rcases h2 with ⟨h3, h4, h5, _⟩ | ⟨h3, h4⟩
    · rw [wanted_rel R h3, if_pos rfl]
      refine .inl (stepV_wp R h5 fun a' w' g' R' F => ?_)
      rw [← h1] at R'
      exact hK a' w' g' R' F
    · rw [wanted_rel R h3, if_neg (by simp)]
      rw [h4] at h1
      refine hK _ _ g ?_ (Fr.refl w g)
      rw [h1]
      exact R.put (v := .tup []) (c := undef) fun t _ => SVR.of t (.tup rfl fun j c v hc => by simp at hc)

/-- where a region ends: all is done, or this one stops it -/
def EndAt (P : Program) (H : Hints) (call : CallFn) (cx : Cx) (ops : Array Oper) (r : Out) : Option Nat → St → Prop
  | none, s => r = .norm s
  | some m, s => ∃ o v s', ops[m]? = some o ∧ isN o = true ∧ wantedA ops s o = some true ∧ stepO P H call cx o s = some (.pan v s') ∧ r = .pan v { s' with slots := wipe s'.slots (dsts ops) }

theorem wipe_set {d : Tmp} {v : AV} : ∀ (ds : List Tmp) (sl : Slots), d ∈ ds → wipe (sl.set d v) ds = wipe sl ds
  | [], sl, h => by cases h
  | t :: ds, sl, h => by
    simp only [wipe]
    by_cases e : d = t
    · subst e; rw [Slots.set_set]
    · rw [Slots.set_comm _ _ _ e]
      exact wipe_set ds _ ((List.mem_cons.1 h).resolve_left e)
theorem dsts_mem {i : Nat} {o : Oper} {d : Tmp} (ho : ops[i]? = some o) (hd : o.dst = some d) : d ∈ dsts ops :=
  List.mem_filterMap.2 ⟨o, Array.mem_toList_iff.2 (Array.mem_of_getElem? ho), hd⟩

theorem new_nopan {o : Oper} {s s' : St} {v : AV} (hn : isNew o = true) (h : stepO P H call cx o s = some (.pan v s')) : False := by
  obtain ⟨dst, op, ty, pos, after, guard⟩ := o
  cases op with
  | alloc t =>
    simp only [stepO] at h
    split at h
    · split at h
      · cases h
      · cases h
    · cases h
  | box t x =>
    simp only [stepO] at h
    split at h
    · split at h
      · cases h
      · cases h
    · cases h
  | _ => simp [isNew] at hn

/-- what is left to do changes nothing of the end that stops a region -/
theorem EndAt.slide {r : Out} {m : Nat} {om : Oper} (hm : ops[m]? = some om) : ∀ {T : List It} {s : St}, (∀ x ∈ T, x.n = false ∧ ops[x.i]? = some x.o ∧ x.o.apart ops om = true) → Chain P H call cx ops (EndAt P H call cx ops r (some m)) T s → EndAt P H call cx ops r (some m) s
  | [], s, _, h => h
  | x :: T, s, hx, h => by
    obtain ⟨s1, h1, h2⟩ := h
    obtain ⟨o, v, s', e1, e2, e3, e4, e5⟩ := EndAt.slide hm (fun y hy => hx y (by simp [hy])) h2
    rw [hm] at e1; cases e1
    obtain ⟨hn, ho, hap⟩ := hx x (by simp)
    obtain ⟨a1, a2, a3⟩ := Oper.apart_spec hap
    rcases h1 with ⟨h, _⟩ | ⟨_, hs, _⟩
    · rw [hn] at h; cases h
    rw [hs] at e3 e4
    have hsl : SameSl ops om s (put s x.o.dst x.v) := SameSl.put a1
    rw [hsl.wanted] at e3
    rw [stepO_put e2 (blind_of a1) a2] at e4
    cases hr : stepO P H call cx om s with
    | none => rw [hr] at e4; cases e4
    | some r1 =>
      rw [hr] at e4
      cases r1 with
      | ok s2 => simp [putR] at e4
      | pan c s2 =>
        simp only [Option.map_some, putR, Option.some.injEq, R1.pan.injEq] at e4
        obtain ⟨rfl, rfl⟩ := e4
        refine ⟨om, c, s2, hm, e2, e3, hr, ?_⟩
        rw [e5]
        congr 1
        cases hd : x.o.dst with
        | none => rfl
        | some d =>
          simp only [put]
          rw [wipe_set _ _ (dsts_mem ho hd)]

theorem any_wp (hC : CallOK P call) (L : Laid pl ops) {r : Out} {mo : Option Nat} : ∀ (fuel : Nat) (T : List It) (listed : Array Bool) (s : St) (a : Act) (w : World) (g : Gh), T.length + (if mo.isSome then 1 else 0) ≤ fuel → Left pl ops mo listed T → Chain P H call cx ops (EndAt P H call cx ops r mo) T s →
    B ≤ w.heap.size → Rel B w g s a → MeetsR B w g Q r → wpAny P .any ops Q fuel listed a w := by
  -- somebody is ready, where something is left
  have some_ready : ∀ (T : List It) (listed : Array Bool), Left pl ops mo listed T → Region.ready .any ops listed = [] → T = [] ∧ mo = none := by
    intro T listed hL hr
    have no : ∀ i o, ops[i]? = some o → listed.getD i true = false → (∀ e ∈ o.after, Region.binds .any e = true → listed.getD e.on false = true) → False := by
      intro i o ho hl ha
      have : i ∈ Region.ready .any ops listed := mem_ready.2 ⟨hl, o, ho, ha⟩
      rw [hr] at this; cases this
    have hm0 : mo = none := by
      cases hmo : mo with
      | none => rfl
      | some m =>
        exfalso
        obtain ⟨hml, om, hom⟩ := hL.mun m hmo
        cases hT : T with
        | nil =>
          refine no m om hom hml fun e he hb => ?_
          cases hle : listed.getD e.on false with
          | true => rfl
          | false =>
            have hlt := L.back m om hom e he hb
            have hms := (Array.getElem?_eq_some_iff.1 hom).1
            have h1 : listed.getD e.on true = false := by
              have : e.on < listed.size := by rw [hL.size]; omega
              simp [this] at hle ⊢; exact hle
            rcases hL.cover e.on (by omega) h1 with ⟨x, hx, _⟩ | ⟨m', hm', h2⟩
            · rw [hT] at hx; cases hx
            · rw [hmo] at hm'; cases hm'
              rcases h2 with h2 | h2
              · omega
              · have := waits_lt L _ _ h2; omega
        | cons x T' =>
          have hx : x ∈ T := by rw [hT]; simp
          obtain ⟨hox, hlx⟩ := hL.ok x hx
          refine no x.i x.o hox hlx fun e he hb => ?_
          cases hle : listed.getD e.on false with
          | true => rfl
          | false =>
            exfalso
            have hlt := L.back x.i x.o hox e he hb
            have hms := (Array.getElem?_eq_some_iff.1 hox).1
            have h1 : listed.getD e.on true = false := by
              have : e.on < listed.size := by rw [hL.size]; omega
              simp [this] at hle ⊢; exact hle
            have hw : waits ops x.i e.on = true := (waits_iff L hox).2 ⟨e, he, hb, .inr rfl⟩
            rcases hL.cover e.on (by omega) h1 with ⟨y, hy, h3⟩ | ⟨m', hm', h2⟩
            · have hs := hL.sorted
              rw [hT] at hy hs
              rcases List.mem_cons.1 hy with rfl | hy
              · omega
              · have := (List.pairwise_cons.1 hs).1 y hy; omega
            · have hmd := hL.mind m' hm' x hx
              rcases h2 with h2 | h2
              · rw [h2] at hw; rw [hmd.2.1] at hw; cases hw
              · have : waits ops x.i m' = true := (waits_iff L hox).2 ⟨e, he, hb, .inl h2⟩
                rw [hmd.2.1] at this; cases this
    refine ⟨?_, hm0⟩
    cases hT : T with
    | nil => rfl
    | cons x T' =>
      exfalso
      have hx : x ∈ T := by rw [hT]; simp
      obtain ⟨hox, hlx⟩ := hL.ok x hx
      refine no x.i x.o hox hlx fun e he hb => ?_
      cases hle : listed.getD e.on false with
      | true => rfl
      | false =>
        exfalso
        have hlt := L.back x.i x.o hox e he hb
        have hms := (Array.getElem?_eq_some_iff.1 hox).1
        have h1 : listed.getD e.on true = false := by
          have : e.on < listed.size := by rw [hL.size]; omega
          simp [this] at hle ⊢; exact hle
        rcases hL.cover e.on (by omega) h1 with ⟨y, hy, h3⟩ | ⟨m', hm', h2⟩
        · have hs := hL.sorted
          rw [hT] at hy hs
          rcases List.mem_cons.1 hy with rfl | hy
          · omega
          · have := (List.pairwise_cons.1 hs).1 y hy; omega
        · rw [hm0] at hm'; cases hm'
  have done : ∀ (T : List It) (listed : Array Bool) (s : St) (a : Act) (w : World) (g : Gh), Left pl ops mo listed T → Chain P H call cx ops (EndAt P H call cx ops r mo) T s → B ≤ w.heap.size → Rel B w g s a → MeetsR B w g Q r → Region.ready .any ops listed = [] → Q .normal a w := by
    intro T listed s a w g hL hc hB R M hr
    obtain ⟨rfl, hmo⟩ := some_ready T listed hL hr
    rw [hmo] at hc
    have : r = .norm s := hc
    rw [this] at M
    exact M a w g R (Fr.refl w g) hB
  intro fuel
  induction fuel with
  | zero =>
    intro T listed s a w g hf hL hc hB R M
    have hT : T = [] := List.eq_nil_of_length_eq_zero (by omega)
    have hmo : mo = none := by
      cases mo with
      | none => rfl
      | some m => simp at hf
    have hr : Region.ready .any ops listed = [] := by
      cases hr : Region.ready .any ops listed with
      | nil => rfl
      | cons i l =>
        exfalso
        have hi : i ∈ Region.ready .any ops listed := by rw [hr]; simp
        obtain ⟨hl, o, ho, _⟩ := mem_ready.1 hi
        rcases hL.cover i (Array.getElem?_eq_some_iff.1 ho).1 hl with ⟨x, hx, _⟩ | ⟨m, hm, _⟩
        · rw [hT] at hx; cases hx
        · rw [hmo] at hm; cases hm
    exact ⟨hr, done T listed s a w g hL hc hB R M hr⟩
  | succ fuel ih =>
    intro T listed s a w g hf hL hc hB R M
    refine ⟨done T listed s a w g hL hc hB R M, fun i hi => ?_⟩
    obtain ⟨hl, o, ho, _⟩ := mem_ready.1 hi
    have hmi : ∀ m, mo = some m → waits ops i m = false := fun m hm => by
      cases hw : waits ops i m with
      | false => rfl
      | true =>
        have := hL.ready_waits L hi hw
        have h2 := (listed_both (hL.mun m hm).1).1
        rw [this] at h2; cases h2
    rcases hL.cover i (Array.getElem?_eq_some_iff.1 ho).1 hl with ⟨x, hx, rfl⟩ | ⟨m, hm, h2⟩
    · obtain ⟨l1, l2, rfl⟩ := List.append_of_mem hx
      have hind : ∀ y ∈ l1, Ind ops y x := by
        intro y hy
        have hp := hL.pairs
        rw [List.pairwise_append] at hp
        rcases hp.2.2 y hy x (by simp) with h | h
        · have h1 := hL.ready_waits L hi h
          have h2 := (listed_both (hL.ok y (by simp [hy])).2).1
          rw [h1] at h2; cases h2
        · exact h
      obtain ⟨s1, h1, h2⟩ := Chain.move hind hc
      refine stepIt_wp hC hB (hL.ok x hx).1 h1 R fun a' w' g' R' F => ?_
      refine ih (l1 ++ l2) _ s1 a' w' g' ?_ (hL.set L hi) h2 (Nat.le_trans hB F.size) R' (M.after F)
      simp only [List.length_append, List.length_cons] at hf ⊢
      omega
    · rcases h2 with rfl | h2
      · -- the one that stops the region
        have hap : ∀ x ∈ T, x.n = false ∧ ops[x.i]? = some x.o ∧ x.o.apart ops o = true := by
          rw [hm] at hc
          have hend : ∀ {T : List It} {s : St}, Chain P H call cx ops (EndAt P H call cx ops r (some i)) T s → ∃ s, EndAt P H call cx ops r (some i) s := by
            intro T
            induction T with
            | nil => exact fun h => ⟨_, h⟩
            | cons y T ihT => exact fun h => by obtain ⟨s1, _, h2⟩ := h; exact ihT h2
          obtain ⟨sE, oE, vE, s'E, e1, e2, e3, e4, e5⟩ := hend hc
          rw [ho] at e1; cases e1
          have nopan : isNew o = true → False := fun h => new_nopan h e4
          intro x hx
          obtain ⟨hxo, hxl⟩ := hL.ok x hx
          obtain ⟨hne, hxm, hxn⟩ := hL.mind i hm x hx
          rcases Nat.lt_or_ge x.i i with hlt | hge
          · rcases L.pair x.i i x.o o hxo ho hlt with ⟨h, _⟩ | ⟨_, h⟩
            · have h1 := hL.ready_waits L hi h
              have h2 := (listed_both hxl).1
              rw [h1] at h2; cases h2
            · simp only [pairOK, Bool.and_eq_true, Bool.or_eq_true, Bool.not_eq_true'] at h
              refine ⟨?_, hxo, h.1.1.1.1.1.1⟩
              cases hn : x.n with
              | false => rfl
              | true =>
                exfalso
                have hN : isN x.o = true := by
                  have hcc := hc
                  obtain ⟨l1, l2, rfl⟩ := List.append_of_mem hx
                  have : ∀ {l1 : List It} {s : St}, Chain P H call cx ops (EndAt P H call cx ops r (some i)) (l1 ++ x :: l2) s → isN x.o = true := by
                    intro l1
                    induction l1 with
                    | nil =>
                      intro s h
                      obtain ⟨s1, h, _⟩ := h
                      rcases h with ⟨_, h, _⟩ | ⟨h, _⟩
                      · exact h
                      · rw [hn] at h; cases h
                    | cons y l1 ihl => intro s h; obtain ⟨s1, _, h⟩ := h; exact ihl h
                  exact this hcc
                rcases h.1.1.1.2 with h' | h'
                · rw [hN, e2] at h'; simp at h'
                · exact nopan h'.1.2
          · have hlt : i < x.i := by omega
            rcases L.pair i x.i o x.o ho hxo hlt with ⟨h, _⟩ | ⟨_, h⟩
            · rw [hxm] at h; cases h
            · simp only [pairOK, Bool.and_eq_true] at h
              refine ⟨hxn hlt, hxo, ?_⟩
              obtain ⟨a1, a2, a3⟩ := Oper.apart_spec h.1.1.1.1.1.1
              unfold Oper.apart
              simp only [Bool.and_eq_true]
              refine ⟨?_, ?_⟩
              · split
                · rename_i d hd
                  simp only [Bool.and_eq_true, Bool.not_eq_true', bne_iff_ne, ne_eq]
                  refine ⟨?_, fun e => a2 d e hd⟩
                  rw [Bool.eq_false_iff]; intro hc; rw [List.contains_iff_mem] at hc; exact a3 d hd hc
                · rfl
              · split
                · rename_i d hd
                  simp only [Bool.not_eq_true']
                  rw [Bool.eq_false_iff]; intro hc; rw [List.contains_iff_mem] at hc; exact a1 d hd hc
                · rfl
        rw [hm] at hc
        obtain ⟨om, v, s', e1, e2, e3, e4, e5⟩ := EndAt.slide ho hap hc
        rw [ho] at e1; cases e1
        unfold wpOp
        rw [ho]
        simp only
        rw [wanted_rel R e3, if_pos rfl]
        refine .inl (stepO_wp hB hC R e4 fun c w' g' R' V F => ?_)
        rw [e5] at M
        exact M c a w' g' (wipe_rel _ R') V F (Nat.le_trans hB F.size)
      · rw [hmi m hm] at h2; cases h2
end
end Go.Am
namespace Go.Am
variable [Env]
section
variable [Base]
variable {P : Program} {H : Hints} {B : Nat} {w : World} {g : Gh} {s : St} {a : Act}
variable {cx : Cx} {call : CallFn} {ops : Array Oper} {pl : Plan} {Q : Exit → Act → World → Prop}

/-- an operation that was gone through already, as it was put down -/
structure Rec (ops : Array Oper) (i : Nat) (rs : List (Nat × List Nat)) (ws : List (Nat × List Nat × OS)) (qs : List (Nat × Bool)) (x : It) : Prop where
  ok : ops[x.i]? = some x.o
  lt : x.i < i
  v : x.n = false → x.R = [] ∨ ((x.i, x.R) ∈ rs ∧ isV x.o = true ∧ (looked x.o).isSome = true)
  n : x.n = true → isN x.o = true ∧ (∃ os, (x.i, x.R, os) ∈ ws ∧ x.need = os.map fun e => e.1 / 64) ∧ (x.i, x.q) ∈ qs

theorem inN_mem {i : Nat} : ∀ {l : List Nat}, inN i l = true ↔ i ∈ l
  | [] => by simp [inN]
  | a :: l => by
    simp only [inN, Bool.or_eq_true, inN_mem (l := l), List.mem_cons]
    constructor
    · rintro (h | h)
      · exact .inl (Nat.eq_of_beq_eq_true h).symm
      · exact .inr h
    · rintro (h | h)
      · left; subst h; exact Nat.beq_refl i
      · exact .inr h
theorem meet_false {l m : List Tmp} (h : meet l m = false) : ∀ t ∈ l, t ∉ m := by
  intro t h1 h2
  unfold meet at h
  rw [List.any_eq_false] at h
  exact h t h1 (inN_mem.2 h2)
theorem chkW_get {i : Nat} {R : List Nat} : ∀ {ws : List (Nat × List Nat × OS)}, chkW pl i R ws = true → ∀ j W os, (j, W, os) ∈ ws → inP i j pl.pairs = true → apartM R W os = true
  | [], _, j, W, os, h, _ => by cases h
  | (j', W', os') :: ws, h, j, W, os, hm, hp => by
    simp only [chkW, Bool.and_eq_true, Bool.or_eq_true, Bool.not_eq_true'] at h
    rcases List.mem_cons.1 hm with e | hm
    · cases e
      rcases h.1 with h1 | h1
      · rw [hp] at h1; cases h1
      · exact h1
    · exact chkW_get h.2 j W os hm hp
theorem chkR_get {j : Nat} {W : List Nat} {os : OS} : ∀ {rs : List (Nat × List Nat)}, chkR pl j W os rs = true → ∀ i R, (i, R) ∈ rs → inP i j pl.pairs = true → apartM R W os = true
  | [], _, i, R, h, _ => by cases h
  | (i', R') :: rs, h, i, R, hm, hp => by
    simp only [chkR, Bool.and_eq_true, Bool.or_eq_true, Bool.not_eq_true'] at h
    rcases List.mem_cons.1 hm with e | hm
    · cases e
      rcases h.1 with h1 | h1
      · rw [hp] at h1; cases h1
      · exact h1
    · exact chkR_get h.2 i R hm hp
theorem chkN_get {i : Nat} : ∀ {qs : List (Nat × Bool)}, chkN pl i qs = true → ∀ j q, (j, q) ∈ qs → inP i j pl.news = true → q = true
  | [], _, j, q, h, _ => by cases h
  | (j', q') :: qs, h, j, q, hm, hp => by
    simp only [chkN, Bool.and_eq_true, Bool.or_eq_true, Bool.not_eq_true'] at h
    rcases List.mem_cons.1 hm with e | hm
    · cases e
      rcases h.1 with h1 | h1
      · rw [hp] at h1; cases h1
      · exact h1
    · exact chkN_get h.2 j q hm hp
theorem apartM_get {R W : List Nat} {os : OS} (h : apartM R W os = true) : ∀ u ∈ R, u ∈ os.map (fun e => e.1 / 64) ∧ u ∉ W := by
  intro u hu
  unfold apartM at h
  have := List.all_eq_true.1 h u hu
  simp only [Bool.and_eq_true, Bool.not_eq_true'] at this
  refine ⟨?_, fun hw => ?_⟩
  · have h1 := this.1
    unfold hasU at h1
    obtain ⟨e, he, h1⟩ := List.any_eq_true.1 h1
    exact List.mem_map.2 ⟨e, he, by simpa using h1⟩
  · rw [inN_mem.2 hw] at this; cases this.2

theorem ind_of {x y : It} (hp : pairOK pl ops x.i y.i x.o y.o = true) (nn : x.n = true → y.n = true → isN x.o = true ∧ isN y.o = true ∧ (inP y.i x.i pl.news = true → x.q = true))
    (vn : x.n = false → y.n = true → ∀ u ∈ x.R, (isV x.o && isN y.o && (looked x.o).isSome) = true ∧ (inP x.i y.i pl.pairs = true → u ∈ y.need ∧ u ∉ y.R))
    (nv : x.n = true → y.n = false → ∀ u ∈ y.R, (isN x.o && isV y.o && (looked y.o).isSome) = true ∧ (inP y.i x.i pl.pairs = true → u ∈ x.need ∧ u ∉ x.R)) : Ind ops x y := by
  simp only [pairOK, Bool.and_eq_true, Bool.or_eq_true, Bool.not_eq_true'] at hp
  obtain ⟨⟨⟨⟨⟨⟨h1, h2⟩, h3⟩, h4⟩, h5⟩, h6⟩, h7⟩ := hp
  refine ⟨h1, meet_false h2, meet_false h3, fun a b => ?_, fun a b u hu => ?_, fun a b u hu => ?_⟩
  · obtain ⟨e1, e2, e3⟩ := nn a b
    rcases h4 with h4 | h4
    · rw [e1, e2] at h4; simp at h4
    · exact ⟨h4.1.1, h4.1.2, e3 h4.2⟩
  · obtain ⟨e1, e2⟩ := vn a b u hu
    rcases h5 with h5 | h5
    · rw [e1] at h5; cases h5
    · exact e2 h5
  · obtain ⟨e1, e2⟩ := nv a b u hu
    rcases h6 with h6 | h6
    · rw [e1] at h6; cases h6
    · exact e2 h6

theorem unitsV_looked {o : Oper} {u : Nat} (h : u ∈ unitsV s o) : (looked o).isSome = true := by
  unfold unitsV at h
  cases hl : looked o with
  | none => rw [hl] at h; cases h
  | some x => rfl

/-- what an operation that looks has to do with those ahead of it -/
theorem look_rec (L : Laid pl ops) {i : Nat} {rs : List (Nat × List Nat)} {ws : List (Nat × List Nat × OS)} {qs : List (Nat × Bool)} {y x : It} (hy : ops[y.i]? = some y.o) (hyn : y.n = false) (hi : i ≤ y.i) (hR : y.R = [] ∨ (isV y.o = true ∧ y.R = unitsV s y.o ∧ chkW pl y.i (unitsV s y.o) ws = true))
    (hx : Rec ops i rs ws qs x) : waits ops y.i x.i = true ∨ Ind ops x y := by
  rcases L.pair x.i y.i x.o y.o hx.ok hy (Nat.lt_of_lt_of_le hx.lt hi) with ⟨h, _⟩ | ⟨_, h⟩
  · exact .inl h
  · right
    refine ind_of h (fun _ b => by rw [hyn] at b; cases b) (fun _ b => by rw [hyn] at b; cases b) fun a _ u hu => ?_
    obtain ⟨n1, ⟨os, n2, n3⟩, n4⟩ := hx.n a
    rcases hR with hR | ⟨hV, hR, hc⟩
    · rw [hR] at hu; cases hu
    · rw [hR] at hu
      refine ⟨by rw [n1, hV, unitsV_looked hu]; rfl, fun hp => ?_⟩
      rw [n3]
      exact apartM_get (chkW_get hc x.i x.R os n2 hp) u hu

theorem EndAt.put {r : Out} {m : Nat} {om : Oper} {i : Nat} {o : Oper} {v : AV} (hm : ops[m]? = some om) (ho : ops[i]? = some o) (a1 : ∀ d, o.dst = some d → d ∉ om.looksAt ops) (a2 : ∀ d, o.dst = some d → om.dst ≠ some d)
    (h : EndAt P H call cx ops r (some m) s) : EndAt P H call cx ops r (some m) (put s o.dst v) := by
  obtain ⟨o', c, s', e1, e2, e3, e4, e5⟩ := h
  rw [hm] at e1; cases e1
  have hsl : SameSl ops om s (Go.Am.put s o.dst v) := SameSl.put a1
  refine ⟨om, c, Go.Am.put s' o.dst v, hm, e2, by rw [hsl.wanted]; exact e3, by rw [stepO_put e2 (blind_of a1) a2, e4]; rfl, ?_⟩
  rw [e5]
  congr 1
  cases hd : o.dst with
  | none => rfl
  | some d =>
    simp only [Go.Am.put]
    rw [wipe_set _ _ (dsts_mem ho hd)]

/-- what is left, laid out -/
structure Out1 (P : Program) (H : Hints) (call : CallFn) (cx : Cx) (pl : Plan) (ops : Array Oper) (r : Out) (i n : Nat) (s : St) (rs : List (Nat × List Nat)) (ws : List (Nat × List Nat × OS)) (qs : List (Nat × Bool)) (mo : Option Nat) (T : List It) : Prop where
  chain : Chain P H call cx ops (EndAt P H call cx ops r mo) T s
  ok : ∀ x ∈ T, ops[x.i]? = some x.o ∧ i ≤ x.i
  sorted : T.Pairwise fun x y => x.i < y.i
  pairs : T.Pairwise fun x y => waits ops y.i x.i = true ∨ Ind ops x y
  cover : ∀ k, i ≤ k → k < ops.size → (∃ x ∈ T, x.i = k) ∨ ∃ m, mo = some m ∧ (k = m ∨ waits ops k m = true)
  mind : ∀ m, mo = some m → ∀ x ∈ T, x.i ≠ m ∧ waits ops x.i m = false ∧ (m < x.i → x.n = false)
  rc : ∀ x, Rec ops i rs ws qs x → ∀ y ∈ T, waits ops y.i x.i = true ∨ Ind ops x y
  len : T.length + (if mo.isSome then 1 else 0) ≤ n

theorem drop_cons {i : Nat} {o : Oper} {l : List Oper} (h : o :: l = ops.toList.drop i) : ops[i]? = some o ∧ l = ops.toList.drop (i + 1) := by
  have h1 : (ops.toList.drop i)[0]? = some o := by rw [← h]; rfl
  rw [List.getElem?_drop, Nat.add_zero] at h1
  refine ⟨by simpa using h1, ?_⟩
  have := congrArg List.tail h
  simpa [List.tail_drop] using this
theorem drop_nil {i : Nat} (h : ([] : List Oper) = ops.toList.drop i) : ops.size ≤ i := by
  have := List.drop_eq_nil_iff.1 h.symm
  simpa using this

theorem runF_out (L : Laid pl ops) {r : Out} {m : Nat} {om : Oper} (hm : ops[m]? = some om) (hmN : isN om = true) {rs : List (Nat × List Nat)} {ws : List (Nat × List Nat × OS)} {qs : List (Nat × Bool)} :
    ∀ (l : List Oper) (i : Nat) (s : St), l = ops.toList.drop i → m < i → runF P pl (freeOf m pl.free) ops ws l i s = true → EndAt P H call cx ops r (some m) s →
    ∃ T, Chain P H call cx ops (EndAt P H call cx ops r (some m)) T s ∧ (∀ x ∈ T, ops[x.i]? = some x.o ∧ i ≤ x.i ∧ x.n = false ∧ waits ops x.i m = false) ∧ (T.Pairwise fun x y => x.i < y.i) ∧
      (∀ k, i ≤ k → k < ops.size → (∃ x ∈ T, x.i = k) ∨ waits ops k m = true) ∧ (∀ i0, i0 ≤ i → ∀ x, Rec ops i0 rs ws qs x → ∀ y ∈ T, waits ops y.i x.i = true ∨ Ind ops x y) ∧ T.length ≤ l.length
  | [], i, s, hl, hi, h, hE => by
    have := drop_nil hl
    exact ⟨[], hE, fun x hx => (by cases hx), .nil, fun k h1 h2 => (by omega), fun _ _ _ _ y hy => (by cases hy), (by simp)⟩
  | o :: l, i, s, hl, hi, h, hE => by
    obtain ⟨ho, hl'⟩ := drop_cons hl
    simp only [runF] at h
    split at h
    · rename_i hfr
      have hw : waits ops i m = false ∧ pairOK pl ops m i om o = true := by
        rcases L.pair m i om o hm ho hi with ⟨_, h2⟩ | h2
        · exact absurd ⟨hmN, hfr⟩ h2
        · exact h2
      have hp := hw.2
      simp only [pairOK, Bool.and_eq_true] at hp
      obtain ⟨a1, a2, a3⟩ := Oper.apart_spec hp.1.1.1.1.1.1
      have cons : ∀ (v : AV) (R : List Nat), StepIt P H call cx ops ⟨i, o, false, v, R, [], false⟩ s (put s o.dst v) → (R = [] ∨ (isV o = true ∧ R = unitsV s o ∧ chkW pl i (unitsV s o) ws = true)) → runF P pl (freeOf m pl.free) ops ws l (i + 1) (put s o.dst v) = true →
          ∃ T, Chain P H call cx ops (EndAt P H call cx ops r (some m)) T s ∧ (∀ x ∈ T, ops[x.i]? = some x.o ∧ i ≤ x.i ∧ x.n = false ∧ waits ops x.i m = false) ∧ (T.Pairwise fun x y => x.i < y.i) ∧
            (∀ k, i ≤ k → k < ops.size → (∃ x ∈ T, x.i = k) ∨ waits ops k m = true) ∧ (∀ i0, i0 ≤ i → ∀ x, Rec ops i0 rs ws qs x → ∀ y ∈ T, waits ops y.i x.i = true ∨ Ind ops x y) ∧ T.length ≤ (o :: l).length := by
        intro v R hst hR h
        obtain ⟨T, t1, t2, t3, t4, t5, t6⟩ := runF_out L hm hmN l (i + 1) _ hl' (by omega) h (hE.put hm ho (fun d hd => a3 d hd) (fun d hd he => a2 d he hd))
        refine ⟨⟨i, o, false, v, R, [], false⟩ :: T, ⟨_, hst, t1⟩, fun x hx => ?_, List.pairwise_cons.2 ⟨fun x hx => (t2 x hx).2.1, t3⟩, fun k h1 h2 => ?_, fun i0 hi0 x hx y hy => ?_, by simp; omega⟩
        · rcases List.mem_cons.1 hx with rfl | hx
          · exact ⟨ho, Nat.le_refl _, rfl, hw.1⟩
          · obtain ⟨q1, q2, q3, q4⟩ := t2 x hx
            exact ⟨q1, by omega, q3, q4⟩
        · rcases Nat.lt_or_ge i k with hk | hk
          · rcases t4 k hk h2 with ⟨x, hx, h3⟩ | h3
            · exact .inl ⟨x, by simp [hx], h3⟩
            · exact .inr h3
          · exact .inl ⟨_, List.mem_cons_self .., by show i = k; omega⟩
        · rcases List.mem_cons.1 hy with rfl | hy
          · exact look_rec (s := s) L ho rfl hi0 hR hx
          · exact t5 i0 (by omega) x hx y hy
      split at h
      · rename_i hwt
        split at h
        · rename_i hV
          split at h
          · rename_i v hv
            simp only [Bool.and_eq_true] at h
            exact cons v (unitsV s o) (.inr ⟨rfl, rfl, .inl ⟨hwt, hV, hv, rfl⟩⟩) (.inr ⟨hV, rfl, h.1⟩) h.2
          · cases h
        · cases h
      · rename_i hwf
        exact cons (.tup []) [] (.inr ⟨rfl, rfl, .inr ⟨hwf, rfl⟩⟩) (.inl rfl) h
      · cases h
    · rename_i hfr
      have hw : waits ops i m = true := by
        rcases L.pair m i om o hm ho hi with ⟨h2, _⟩ | ⟨_, h2⟩
        · exact h2
        · simp only [pairOK, Bool.and_eq_true, Bool.or_eq_true, Bool.not_eq_true'] at h2
          rcases h2.2 with h3 | h3
          · rw [hmN] at h3; cases h3
          · exact absurd h3 hfr
      obtain ⟨T, t1, t2, t3, t4, t5, t6⟩ := runF_out L hm hmN l (i + 1) _ hl' (by omega) h hE
      refine ⟨T, t1, fun x hx => ?_, t3, fun k h1 h2 => ?_, fun i0 hi0 => t5 i0 (by omega), by simp; omega⟩
      · obtain ⟨q1, q2, q3, q4⟩ := t2 x hx
        exact ⟨q1, by omega, q3, q4⟩
      · rcases Nat.lt_or_ge i k with hk | hk
        · exact t4 k hk h2
        · have : k = i := by omega
          subst this; exact .inr hw

theorem runD_out (L : Laid pl ops) {r : Out} : ∀ (l : List Oper) (i : Nat) (s : St) (rs : List (Nat × List Nat)) (ws : List (Nat × List Nat × OS)) (qs : List (Nat × Bool)), l = ops.toList.drop i → runD P H (stepO P H call cx) pl ops l i s rs ws qs = some r →
    ∃ mo T, (∀ m, mo = some m → i ≤ m ∧ ∃ o, ops[m]? = some o) ∧ Out1 P H call cx pl ops r i l.length s rs ws qs mo T
  | [], i, s, rs, ws, qs, hl, h => by
    simp only [runD] at h
    have := drop_nil hl
    exact ⟨none, [], fun m hm => (by cases hm), (Option.some.inj h).symm, fun x hx => (by cases hx), .nil, .nil, fun k h1 h2 => (by omega), fun m hm => (by cases hm), fun x hx y hy => (by cases hy), (by simp)⟩
  | o :: l, i, s, rs, ws, qs, hl, h => by
    obtain ⟨ho, hl'⟩ := drop_cons hl
    have cons : ∀ (x : It) (s1 : St) (rs' : List (Nat × List Nat)) (ws' : List (Nat × List Nat × OS)) (qs' : List (Nat × Bool)), x.i = i → x.o = o → StepIt P H call cx ops x s s1 → runD P H (stepO P H call cx) pl ops l (i + 1) s1 rs' ws' qs' = some r →
        (∀ y, Rec ops i rs ws qs y → Rec ops (i + 1) rs' ws' qs' y) → Rec ops (i + 1) rs' ws' qs' x → (∀ y, Rec ops i rs ws qs y → waits ops x.i y.i = true ∨ Ind ops y x) →
        ∃ mo T, (∀ m, mo = some m → i ≤ m ∧ ∃ o, ops[m]? = some o) ∧ Out1 P H call cx pl ops r i (o :: l).length s rs ws qs mo T := by
      intro x s1 rs' ws' qs' hxi hxo hst h hsub hrx hind
      obtain ⟨mo, T, hmo, O⟩ := runD_out L l (i + 1) s1 rs' ws' qs' hl' h
      refine ⟨mo, x :: T, fun m hm => ⟨by have := (hmo m hm).1; omega, (hmo m hm).2⟩, ⟨s1, hst, O.chain⟩, fun y hy => ?_, List.pairwise_cons.2 ⟨fun y hy => by have := (O.ok y hy).2; omega, O.sorted⟩, List.pairwise_cons.2 ⟨fun y hy => O.rc x hrx y hy, O.pairs⟩, fun k h1 h2 => ?_, fun m hm y hy => ?_, fun z hz y hy => ?_, ?_⟩
      · rcases List.mem_cons.1 hy with rfl | hy
        · exact ⟨by rw [hxi, hxo]; exact ho, by omega⟩
        · obtain ⟨q1, q2⟩ := O.ok y hy; exact ⟨q1, by omega⟩
      · rcases Nat.lt_or_ge i k with hk | hk
        · rcases O.cover k hk h2 with ⟨y, hy, h3⟩ | h3
          · exact .inl ⟨y, by simp [hy], h3⟩
          · exact .inr h3
        · exact .inl ⟨x, by simp, by omega⟩
      · rcases List.mem_cons.1 hy with rfl | hy
        · have := (hmo m hm).1
          refine ⟨by omega, ?_, fun h => by omega⟩
          cases hw : waits ops y.i m with
          | false => rfl
          | true => have := waits_lt L _ _ hw; omega
        · exact O.mind m hm y hy
      · rcases List.mem_cons.1 hy with rfl | hy
        · exact hind z hz
        · exact O.rc z (hsub z hz) y hy
      · have := O.len; simp only [List.length_cons]; omega
    simp only [runD] at h
    split at h
    · rename_i hwt
      split at h
      · rename_i hV
        split at h
        · rename_i v hv
          split at h
          · rename_i hc
            refine cons ⟨i, o, false, v, unitsV s o, [], false⟩ _ _ _ _ rfl rfl (.inr ⟨rfl, rfl, .inl ⟨hwt, hV, hv, rfl⟩⟩) h (fun y hy => ⟨hy.ok, by have := hy.lt; omega, fun hn => ?_, hy.n⟩) ⟨ho, Nat.lt_succ_self _, fun _ => ?_, fun h => by cases h⟩ fun y hy => ?_
            · rcases hy.v hn with h1 | ⟨h1, h2⟩
              · exact .inl h1
              · exact .inr ⟨List.mem_cons_of_mem _ h1, h2⟩
            · show unitsV s o = [] ∨ _
              cases hu : unitsV s o with
              | nil => exact .inl rfl
              | cons u us => exact .inr ⟨by rw [← hu]; exact List.mem_cons_self .., hV, unitsV_looked (s := s) (u := u) (by rw [hu]; simp)⟩
            · exact look_rec (s := s) L ho rfl (Nat.le_refl _) (.inr ⟨hV, rfl, hc⟩) hy
          · cases h
        · cases h
      · rename_i hV
        have hN : isN o = true := (L.kind i o ho).resolve_left hV
        split at h
        · rename_i s' hs
          split at h
          · rename_i hc
            simp only [Bool.and_eq_true] at hc
            refine cons ⟨i, o, true, .undef, touch P H s o, s.os.map fun e => e.1 / 64, quiet P H s o⟩ _ _ _ _ rfl rfl (.inl ⟨rfl, hN, hwt, hs, rfl, fun u hu => ?_, fun h => h⟩) h (fun y hy => ⟨hy.ok, by have := hy.lt; omega, hy.v, fun hn => ?_⟩) ⟨ho, Nat.lt_succ_self _, (fun h => by cases h), fun _ => ⟨hN, ⟨s.os, List.mem_cons_self .., rfl⟩, List.mem_cons_self ..⟩⟩ fun y hy => ?_
            · obtain ⟨e, he, h1⟩ := List.mem_map.1 hu
              exact List.any_eq_true.2 ⟨e, he, by simpa using h1⟩
            · obtain ⟨n1, ⟨os, n2, n3⟩, n4⟩ := hy.n hn
              exact ⟨n1, ⟨os, List.mem_cons_of_mem _ n2, n3⟩, List.mem_cons_of_mem _ n4⟩
            · rcases L.pair y.i i y.o o hy.ok ho hy.lt with ⟨h1, _⟩ | ⟨_, h1⟩
              · exact .inl h1
              · right
                refine ind_of (y := ⟨i, o, true, .undef, touch P H s o, s.os.map fun e => e.1 / 64, quiet P H s o⟩) h1 (fun a _ => ?_) (fun a _ u hu => ?_) (fun _ b => by cases b)
                · obtain ⟨n1, _, n4⟩ := hy.n a
                  exact ⟨n1, hN, fun hp => chkN_get hc.2 y.i y.q n4 hp⟩
                · rcases hy.v a with h2 | ⟨h2, h3, h4⟩
                  · rw [h2] at hu; cases hu
                  · exact ⟨by rw [h3, h4]; simp [hN], fun hp => apartM_get (chkR_get hc.1 y.i y.R h2 hp) u hu⟩
          · cases h
        · rename_i v s' hs
          split at h
          · rename_i hf
            have hE : EndAt P H call cx ops r (some i) s := ⟨o, v, s', ho, hN, hwt, hs, (Option.some.inj h).symm⟩
            obtain ⟨T, t1, t2, t3, t4, t5, t6⟩ := runF_out (rs := rs) (qs := qs) L ho hN l (i + 1) s hl' (Nat.lt_succ_self _) hf hE
            refine ⟨some i, T, fun m hm => ?_, t1, fun x hx => ?_, t3, ?_, fun k h1 h2 => ?_, fun m hm x hx => ?_, fun x hx y hy => t5 i (Nat.le_succ i) x hx y hy, by simp; omega⟩
            · cases hm; exact ⟨Nat.le_refl _, o, ho⟩
            · obtain ⟨q1, q2, _⟩ := t2 x hx; exact ⟨q1, by omega⟩
            · refine List.Pairwise.imp_of_mem (fun {x y} hx hy hlt => ?_) t3
              obtain ⟨x1, x2, x3, x4⟩ := t2 x hx
              obtain ⟨y1, y2, y3, y4⟩ := t2 y hy
              rcases L.pair x.i y.i x.o y.o x1 y1 hlt with ⟨h1, _⟩ | ⟨_, h1⟩
              · exact .inl h1
              · right
                exact ind_of h1 (fun a _ => by rw [x3] at a; cases a) (fun _ b => by rw [y3] at b; cases b) (fun a _ => by rw [x3] at a; cases a)
            · rcases Nat.lt_or_ge i k with hk | hk
              · rcases t4 k hk h2 with h3 | h3
                · exact .inl h3
                · exact .inr ⟨i, rfl, .inr h3⟩
              · exact .inr ⟨i, rfl, .inl (by omega)⟩
            · cases hm
              obtain ⟨q1, q2, q3, q4⟩ := t2 x hx
              exact ⟨by omega, q4, fun _ => q3⟩
          · cases h
        · cases h
    · rename_i hwf
      refine cons ⟨i, o, false, .tup [], [], [], false⟩ _ _ _ _ rfl rfl (.inr ⟨rfl, rfl, .inr ⟨hwf, rfl⟩⟩) h (fun y hy => ⟨hy.ok, by have := hy.lt; omega, hy.v, hy.n⟩) ⟨ho, Nat.lt_succ_self _, fun _ => .inl rfl, fun h => by cases h⟩ fun y hy => ?_
      exact look_rec (s := s) L ho rfl (Nat.le_refl _) (.inl rfl) hy
    · cases h

theorem runD_wp (hm : P.follows .mixedOrders = true) (hC : CallOK P call) (hB : B ≤ w.heap.size) (hp : planOK pl ops = true) {id : Nat} {r : Out} (h : runD P H (stepO P H call cx) pl ops ops.toList 0 s [] [] [] = some r) (R : Rel B w g s a) (M : MeetsR B w g Q r) : (Code.region id ops true).wp P Q a w := by
  have L := laid_of hp
  obtain ⟨mo, T, hmo, O⟩ := runD_out L ops.toList 0 s [] [] [] (by simp) h
  refine wp_region_any hm ?_
  have G : Grew w { w with drawn := w.drawn + 1 } := ⟨Nat.le_refl _, rfl, rfl, rfl, fun _ _ => rfl⟩
  obtain ⟨R2, F2⟩ := after_call R G (g' := g) (fun _ _ h => h) (fun _ _ h _ => h) (fun b o h => R.mem.ilt b o h)
  have hrep : ∀ i, i < ops.size → (Array.replicate ops.size false).getD i true = false := fun i hi => by simp [hi]
  refine any_wp hC L ops.size T _ s a _ g (by have := O.len; simpa using this) ⟨by simp, fun x hx => ?_, O.sorted, O.pairs, fun i j hi _ => ?_, fun k hk _ => O.cover k (Nat.zero_le _) hk, fun m hm => ?_, O.mind⟩ O.chain hB R2 (M.after F2)
  · obtain ⟨h1, _⟩ := O.ok x hx
    exact ⟨h1, hrep _ (Array.getElem?_eq_some_iff.1 h1).1⟩
  · rcases Nat.lt_or_ge i ops.size with h1 | h1
    · simp [h1] at hi
    · simp [h1] at hi
  · obtain ⟨_, o, ho⟩ := hmo m hm
    exact ⟨hrep _ (Array.getElem?_eq_some_iff.1 ho).1, o, ho⟩

theorem drOf_ok (hm : P.follows .mixedOrders = true) (hC : CallOK P call) {plan : FuncId → Nat → Option Plan} {f : FuncId} {ub : Nat} : ∀ {c : Code}, plansOK plan f c = true → DrawnOK P (drOf P H plan (stepO P H)) call ⟨f, ub⟩ c := by
  intro c
  induction c with
  | region id ops d =>
    intro h
    cases d with
    | false => trivial
    | true =>
      intro s r hs B w g a Q hB R M
      simp only [drOf] at hs
      simp only [plansOK] at h
      cases hpl : plan f id with
      | none => rw [hpl] at hs; cases hs
      | some pl =>
        rw [hpl] at hs h
        exact runD_wp hm hC hB h hs R M
  | seq x y ihx ihy => intro h; simp only [plansOK, Bool.and_eq_true] at h; exact ⟨ihx h.1, ihy h.2⟩
  | cond c x y ihx ihy => intro h; simp only [plansOK, Bool.and_eq_true] at h; exact ⟨ihx h.1, ihy h.2⟩
  | block id b ih => intro h; simp only [plansOK] at h; exact ih h
  | loop b ih => intro h; simp only [plansOK] at h; exact ih h
  | _ => intro _; trivial
end
end Go.Am
namespace Go.Am
variable [Env]
section
variable [Base]
variable {P : Program} {H : Hints} {B : Nat} {w w' w0 : World} {g g' g'' g0 g1 : Gh} {os os' os'' : OS}

theorem one_arg {x : AV} {vs : Array Value} (h : AVRs w g os [x] vs) : ∃ c, vs = #[c] ∧ AVR w g os x c := by
  obtain ⟨h1, h2⟩ := h
  obtain ⟨l⟩ := vs
  match l, h1 with
  | [c], _ => exact ⟨c, rfl, h2 0 x c rfl rfl⟩
theorem two_args {x y : AV} {vs : Array Value} (h : AVRs w g os [x, y] vs) : ∃ c d, vs = #[c, d] ∧ AVR w g os x c ∧ AVR w g os y d := by
  obtain ⟨h1, h2⟩ := h
  obtain ⟨l⟩ := vs
  match l, h1 with
  | [c, d], _ => exact ⟨c, d, rfl, h2 0 x c rfl rfl, h2 1 y d rfl rfl⟩

theorem grew_of_below (h : Go.RowKit.Below w.heap.size w w') : Grew w w' := ⟨h.size, h.tape, h.os, h.output, h.block⟩
theorem RelO.grew0 (R : RelO B w g os) (G : Grew w w') : RelO B w' g os ∧ Fr w g w' g ∧ Tr some w g os w' g os :=
  ⟨RelO.grew G R (fun _ => rfl) (fun _ _ h => h) (fun _ _ h => .inl h) R.inj (fun x b hb => ⟨(R.lt x b hb).1, Nat.lt_of_lt_of_le (R.lt x b hb).2 G.size⟩),
    Grew.fr G (fun _ _ h => h) R.ilt (fun x b hx _ => ⟨x, hx⟩) (fun _ _ h _ => .inl h), G.tr R (fun _ => rfl) (fun _ _ h => h)⟩
/-- a call that changes nothing that was there -/
theorem ends_grew (R : RelO B w g os) (G : Grew w w') {v : AV} {c : Value} (h : SVR w' g os 0 v c) : Ends B w g (.ret v os) (.returned c) w' :=
  ⟨g, (R.grew0 G).1, ⟨0, h⟩, (R.grew0 G).2.1⟩
theorem ends_same (R : RelO B w g os) {v : AV} {c : Value} (h : SVR w g os 0 v c) : Ends B w g (.ret v os) (.returned c) w := ends_grew R (Grew.refl w) h
/-- a call that makes a row of plain data -/
theorem ends_row (R : RelO B w g os) {cs : Array Value} {el : TypeId} {sz : Nat} {xs : List (List PV)} (h1 : Holds w g.I cs sz xs) (h2 : cs.size = xs.length * sz) :
    Ends B w g (.ret (.p (.vals sz xs)) os) (.returned (.slice (some ⟨w.heap.size, 0, none⟩) xs.length xs.length)) (w.alloc (.cells cs el)) := by
  have G : Grew w (w.alloc (.cells cs el)) := Grew.alloc w _
  let g' : Gh := { bk := g.bk, I := fun b o => g.I b o ∨ b = w.heap.size, W := g.W }
  have hI : ∀ b o, g.I b o → g'.I b o := fun _ _ h => .inl h
  have hnb : ∀ x, g.bk x ≠ some w.heap.size := fun x hx => absurd (R.lt x _ hx).2 (Nat.lt_irrefl _)
  have R' : RelO B (w.alloc (.cells cs el)) g' os := RelO.grew G R (fun _ => rfl) hI (fun b o h => by
    rcases h with h | h
    · exact .inl h
    · subst h; exact .inr ⟨by simp, fun k => hnb _⟩) R.inj (fun x b hb => ⟨(R.lt x b hb).1, Nat.lt_of_lt_of_le (R.lt x b hb).2 G.size⟩)
  refine ⟨g', R', ⟨0, AVR.p ?_⟩, Grew.fr G hI R.ilt (fun x b hx _ => ⟨x, hx⟩) (fun b o h hb => ?_)⟩
  · exact pvr_of_holds (I := g'.I) (h1.mono fun b o h => ⟨hI b o h, cell_heap (G.old b (R.ilt b o h)) o⟩) (heap_alloc w _) (Nat.le_refl _) (fun o _ => .inr rfl)
  · rcases h with h | h
    · exact .inl h
    · subst h; exact absurd hb (Nat.lt_irrefl _)
/-- a call that fills a box of its argument's -/
theorem ends_set (R : RelO B w g os) {w1 : World} (G : Grew w w1) {k b : Nat} {cs cs' : List AV} {vs vs' : Array Value} {el : TypeId} {v : AV} {c : Value} (hk : getObj os k = some (.cells cs)) (hb : g.bk (.obj k) = some b) (hh : w.heap[b]? = some (.cells vs el (0, 0)))
    (hs : vs'.size = cs'.length) (hv : ∀ (j : Nat) (c : AV) (v : Value), cs'[j]? = some c → vs'[j]? = some v → ∃ u, c = .p (.at u) ∧ v = u ∧ u.oneCell' = true) (hr : v = .p (.at c)) (h1 : c.oneCell' = true) :
    Ends B w g (.ret v (setObj os k (.cells cs'))) (.returned c) (w1.setRow b vs') := by
  obtain ⟨R1, F1, _⟩ := R.grew0 G
  have hbl := (R.lt _ b hb).2
  have hh1 : w1.heap[b]? = some (.cells vs el (0, 0)) := by rw [G.old b hbl]; exact hh
  obtain ⟨b0, vs0, el0, q1, q2, q3, q4, q5⟩ := R1.obj k _ hk
  rw [hb] at q1; cases q1
  have W := wrote_setRow w1 b vs'
  have T := Tr.set (o' := .cells cs') W R1 hk hb (fun o ho => absurd ho (q5 o)) rfl
  have ho : OR (w1.setRow b vs') g (setObj os k (.cells cs')) k (.cells cs') := ⟨b, vs', el, hb, setRow_heap w1 b vs vs' el (0, 0) hh1, hs, fun j c v hc hv' => by
    obtain ⟨u, rfl, rfl, hu⟩ := hv j c v hc hv'
    exact ⟨.p (.at hu), hu⟩, q5⟩
  have R2 := RelO.set W R1 hk hb T ho
  refine ⟨g, R2, ⟨0, by rw [hr]; exact AVR.p (.at h1)⟩, F1.trans ⟨by rw [W.size]; exact Nat.le_refl _, W.tape, W.os, W.output, T.imm, fun bb _ hn => W.other bb ?_, fun x bb hx _ => ⟨x, hx⟩, fun _ _ h _ => .inl h, fun _ _ h => h⟩⟩
  rintro rfl
  exact hn _ hb
end
end Go.Am
