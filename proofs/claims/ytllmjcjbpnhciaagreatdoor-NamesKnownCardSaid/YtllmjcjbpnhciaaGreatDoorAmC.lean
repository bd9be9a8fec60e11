/- Calls, loops, code, functions, deferred calls are as the machine says. Conditions: each theorem bears its own. -/
import Derived.LoopN
import Derived.Test.YtllmjcjbpnhciaaGreatDoorAmB
set_option linter.all false
set_option linter.unnecessarySimpa false
set_option linter.unusedSectionVars false
set_option linter.unusedSimpArgs false
set_option linter.unusedVariables false
namespace Go.Am
variable [Env]
section
variable [Base]
variable {P : Program} {H : Hints} {B : Nat} {w w' w0 : World} {g g' g'' g0 : Gh} {os os' os'' : OS} {s : St} {a : Act}
variable {o : Oper} {K : Act → World → Prop} {Q : Exit → Act → World → Prop} {cx : Cx} {r : R1} {call : CallFn}

/-- a function of the program's own text -/
def Enters (P : Program) (f : FuncId) : Prop := ∃ fn, P.funcs[f]? = some fn ∧ fn.body.isSome = true ∧ fn.name ≠ "runtime.NumGoroutine"

theorem run_enter {f : FuncId} (h : Enters P f) (args : Array Value) (w : World) : (callFunc f args).run P w = .ok (.enter f args) w := by
  obtain ⟨fn, h1, h2, h3⟩ := h
  have hn : fn.body.isNone = false := by cases hb : fn.body with
    | none => rw [hb] at h2; cases h2
    | some _ => rfl
  have hname : (fn.name == "runtime.NumGoroutine") = false := by simpa using h3
  have hbn : fn.body ≠ none := by intro hb; rw [hb] at h2; cases h2
  simp [callFunc, h1, hn, hname, h3, hbn]

/-- how a call ends -/
def Ends (B : Nat) (w : World) (g : Gh) : Res → Ending → World → Prop
  | .ret v os', .returned c, w' => ∃ g', RelO B w' g' os' ∧ (∃ t, SVR w' g' os' t v c) ∧ Fr w g w' g'
  | .pan v os', .panicked chain, w' => ∃ g' c, chain = [{ v := c, recovered := false }] ∧ RelO B w' g' os' ∧ AVR w' g' os' v c ∧ Fr w g w' g'
  | _, _, _ => False

def CallOK (P : Program) (call : CallFn) : Prop := ∀ f args os ub r, call f args os ub = some r → Enters P f ∧ ∀ (B : Nat) (w : World) (g : Gh) (vs : Array Value), B ≤ w.heap.size → RelO B w g os → (∀ t, g.bk (.slot t) = none) → (∀ v c, g.W v c → ∀ k ∈ refs v, k / 64 < ub) → AVRs w g os args vs →
  Calls P f vs w (Ends B w g r)

theorem methodOf_run {t : TypeId} {name : String} {f : FuncId} (h : methodOf P t name = some f) (v : Value) (n : Nat) (w : World) : (method (n + 1) t v name).run P w = .ok (f, v) w := by
  unfold methodOf at h
  split at h
  · rename_i i hi
    split at h
    · rename_i m hm
      split at h
      · rename_i hp
        have hpe : m.path.toList = [] := by simpa using hp
        split at h
        · cases h
        · rename_i f' d hd hf hu
          cases h
          unfold method
          simp [typeInfo, hi, hm, hpe, follow, hf, receiverAt, run_underlying hu]
          cases d <;> first | exact absurd hu (hd _ rfl) | rfl
        · rename_i f' e hf hu
          cases h
          unfold method
          simp [typeInfo, hi, hm, hpe, follow, hf, receiverAt, run_underlying hu]
          rfl
        · cases h
      · cases h
    · cases h
  · cases h

/-- a call's arguments: the callee's number, the values -/
theorem exec_call (R : Rel B w g s a) {c : Call} {f : FuncId} {args : List AV} (hop : o.op = .call c) (h : calleeOf P s c = some (f, args)) (hE : Enters P f) :
    ∃ vs, (execOp a.eval o).run P w = .ok (.enter f vs) w ∧ AVRs w g s.os (cps args) vs ∧ ∀ (j : Nat) (v : AV) (u : Value), args[j]? = some v → vs[j]? = some u → ∃ t, SVR w g s.os t v u := by
  obtain ⟨callee, cargs, cts⟩ := c
  unfold calleeOf at h
  cases callee with
  | builtin b => cases h
  | value fo =>
    simp only at h
    split at h
    · rename_i fid cap av hf hav
      cases h
      have hv := (ev1_rel R hf).avr rfl
      have hs : ∃ vs, a.eval fo = .func (.func f) #[] vs ∧ AVRs w g s.os cap vs := by
        revert hv
        generalize a.eval fo = y
        intro hv
        cases hv with | fn hs hv => exact ⟨_, rfl, hs, hv⟩
      obtain ⟨vs, he, hvs⟩ := hs
      have hargs := evs_cps R hav
      obtain ⟨l1, l2⟩ := evs_rel R hav
      have e : (cargs.toList.map a.eval).toArray = cargs.map a.eval := by apply Array.ext'; simp
      rw [e] at hargs
      have hlen : (cargs.map a.eval).size = av.length := by rw [hargs.1, cps_length]
      refine ⟨cargs.map a.eval ++ vs, ?_, ⟨by simp [cps_length, hvs.1, l1], fun j c v hc hv => ?_⟩, fun j v u hv hu => ?_⟩
      · unfold execOp; rw [hop]
        simp only [resolve, he, Deferred.ofValue, Sem.run_bind, Sem.run_pure, Result.andThen_ok, invoke]
        have := run_enter hE (cargs.map a.eval ++ vs) w
        simpa using this
      · have hcap : cps (av ++ cap) = cps av ++ cps cap := by
          clear hav hargs l1 l2 hlen hc
          induction av with
          | nil => rfl
          | cons x xs ih => simp [cps, ih]
        rw [hcap] at hc
        rcases Nat.lt_or_ge j av.length with hj | hj
        · rw [List.getElem?_append_left (by rw [cps_length]; exact hj)] at hc
          rw [Array.getElem?_append_left (by rw [hlen]; exact hj)] at hv
          exact hargs.2 j c v hc hv
        · rw [List.getElem?_append_right (by rw [cps_length]; exact hj), cps_length] at hc
          rw [Array.getElem?_append_right (by rw [hlen]; exact hj), hlen] at hv
          obtain ⟨z, hz, rfl⟩ := cps_get _ _ c hc
          exact (hvs.2 _ z v hz hv).cp
      · rcases Nat.lt_or_ge j av.length with hj | hj
        · rw [List.getElem?_append_left hj] at hv
          rw [Array.getElem?_append_left (by rw [hlen]; exact hj)] at hu
          obtain ⟨x, hx, hev⟩ := l2 j v hv
          have : u = a.eval x := by
            have hx' : cargs[j]? = some x := by simpa using hx
            rw [Array.getElem?_map, hx'] at hu
            exact (Option.some.inj hu).symm
          subst this
          exact ⟨_, ev1_rel R hev⟩
        · rw [List.getElem?_append_right hj] at hv
          rw [Array.getElem?_append_right (by rw [hlen]; exact hj), hlen] at hu
          exact ⟨0, .of 0 (hvs.2 _ v u hv hu)⟩
    · cases h
  | invoke ro name =>
    simp only at h
    split at h
    · rename_i t v av hr hav
      split at h
      · rename_i fid hm
        cases h
        have hv := (ev1_rel R hr).avr rfl
        have hs : ∃ c, a.eval ro = .iface t c ∧ AVR w g s.os v c := by
          revert hv
          generalize a.eval ro = y
          intro hv
          cases hv with | ifc hv => exact ⟨_, rfl, hv⟩
        obtain ⟨c, he, hvc⟩ := hs
        have hargs := evs_cps R hav
        obtain ⟨l1, l2⟩ := evs_rel R hav
        have e : (cargs.toList.map a.eval).toArray = cargs.map a.eval := by apply Array.ext'; simp
        rw [e] at hargs
        refine ⟨#[c] ++ cargs.map a.eval, ?_, ⟨by simp [cps, cps_length, l1]; omega, fun j x u hx hu => ?_⟩, fun j x u hx hu => ?_⟩
        · unfold execOp; rw [hop]
          have hpos : 0 < Made.depth := by decide
          have hdep : ∃ n, P.types.size + Made.depth = n + 1 := ⟨P.types.size + Made.depth - 1, by omega⟩
          obtain ⟨n, hn⟩ := hdep
          have hx : (#[Value.iface t c] ++ cargs.map a.eval).extract 1 (#[Value.iface t c] ++ cargs.map a.eval).size = cargs.map a.eval := by
            apply Array.ext'
            simp
            exact List.take_of_length_le (by simp)
          have hm' := methodOf_run hm c n w
          have hen := run_enter hE (#[c] ++ cargs.map a.eval) w
          have h0 : (#[Value.iface t c] ++ cargs.map a.eval)[0]? = some (.iface t c) := by rw [Array.getElem?_append_left (by simp)]; rfl
          simp only [resolve, he, Sem.run_bind, Sem.run_pure, Result.andThen_ok, invoke, h0, callMethod, hx]
          simp [hn, hm', hen]
        · cases j with
          | zero =>
            rw [Array.getElem?_append_left (by simp)] at hu
            simp [cps] at hx hu; subst hx; subst hu; exact hvc.cp
          | succ j =>
            have hu' : (cargs.map a.eval)[j]? = some u := by
              rw [Array.getElem?_append_right (by simp)] at hu
              simpa using hu
            exact hargs.2 j x u (by simpa [cps] using hx) hu'
        · cases j with
          | zero =>
            rw [Array.getElem?_append_left (by simp)] at hu
            simp at hx hu; subst hx; subst hu; exact ⟨0, .of 0 hvc⟩
          | succ j =>
            have hu' : (cargs.map a.eval)[j]? = some u := by
              rw [Array.getElem?_append_right (by simp)] at hu
              simpa using hu
            obtain ⟨y, hy, hev⟩ := l2 j x (by simpa using hx)
            have hy' : cargs[j]? = some y := by simpa using hy
            rw [Array.getElem?_map, hy'] at hu'
            cases hu'
            exact ⟨_, ev1_rel R hev⟩
      · cases h
    · cases h
end
end Go.Am
namespace Go.Am
variable [Env]
section
variable [Base]
variable {P : Program} {H : Hints} {B : Nat} {w w' w0 : World} {g g' g'' g0 : Gh} {os os' os'' : OS} {s : St} {a : Act}
variable {o : Oper} {K : Act → World → Prop} {Q : Exit → Act → World → Prop} {cx : Cx} {r : R1} {call : CallFn}

theorem cp_thaw (x : PV) : cp (thaw x) = thaw x := by cases x <;> rfl

theorem frzArg_rel (R : RelO B w g os) {v v' : AV} {c : Value} {t : Nat} (h : frzArg os v = some (v', os')) (hv : SVR w g os t v c) : ∃ g', Frz B w g os g' os' ∧ ∀ (g2 : Gh) (os2 : OS), (∀ b o, g'.I b o → g2.I b o) → AVR w g2 os2 v' c := by
  unfold frzArg at h
  split at h
  · cases h
    cases hv with
    | fn hs hv => exact ⟨g, Frz.refl R, fun _ _ _ => .fn hs fun j c v hc => by simp at hc⟩
  · cases h
    cases hv with
    | elem vs hI hc h1 hv => exact ⟨g, Frz.refl R, fun g2 os2 h => .elem vs (fun j y hy => h _ _ (hI j y hy)) hc h1 (fun j y hy => (hv j y hy).mono fun b o hb => ⟨h b o hb, rfl⟩)⟩
  · split at h
    · rename_i y os1 hy
      cases h
      obtain ⟨g', F, hp⟩ := frz_rel R (frz_cp hy) hv.cp
      exact ⟨g', F, fun g2 os2 h => thaw_rel (hp.mono fun b o hb => ⟨h b o hb, rfl⟩)⟩
    · cases h

theorem frzArgs_rel {B : Nat} {w : World} {g0 : Gh} {os0 : OS} : ∀ {args : List AV} {g : Gh} {os : OS} (_ : Frz B w g0 os0 g os) {vs : List Value} {args' : List AV} {os' : OS}, frzArgs os args = some (args', os') → args.length = vs.length →
    (∀ (j : Nat) (v : AV) (u : Value), args[j]? = some v → vs[j]? = some u → ∃ t, SVR w g0 os0 t v u) →
    ∃ g', Frz B w g os g' os' ∧ args'.length = vs.length ∧ ∀ (g2 : Gh) (os2 : OS), (∀ b o, g'.I b o → g2.I b o) → ∀ (j : Nat) (v : AV) (u : Value), args'[j]? = some v → vs[j]? = some u → AVR w g2 os2 v u
  | [], g, os, F0, [], args', os', h, hl, hr => by
    simp only [frzArgs] at h; cases h
    exact ⟨g, Frz.refl F0.rel, rfl, fun _ _ _ j v u h => by simp at h⟩
  | x :: xs, g, os, F0, u :: vs, args', os', h, hl, hr => by
    simp only [frzArgs] at h
    split at h
    · rename_i y os1 hy
      split at h
      · rename_i ys os2 hys
        cases h
        obtain ⟨t, hx⟩ := hr 0 x u rfl rfl
        have hx' : SVR w g os t x u := by
          -- (what a slot owns is looked at as its copy)
          exact hx.ev F0.tr fun b hb => ⟨(F0.bk _).trans hb, rfl, fun o ho => by
            rcases F0.inew b o ho with h | ⟨k, hk⟩
            · exact h
            · have h1 : g.bk (.slot t) = some b := (F0.bk _).trans hb
              have h2 : g.bk (.obj k) = some b := (F0.bk _).trans hk
              have := F0.rel.inj _ _ b h2 h1
              cases this⟩
        obtain ⟨g1, F1, p1⟩ := frzArg_rel F0.rel hy hx'
        obtain ⟨g2, F2, l2, p2⟩ := frzArgs_rel (F0.trans F1) hys (by simpa using hl) (fun j v u hv hu => hr (j + 1) v u (by simpa using hv) (by simpa using hu))
        refine ⟨g2, F1.trans F2, by simp [l2], fun g3 os3 hI j v z hv hz => ?_⟩
        cases j with
        | zero => simp at hv hz; subst hv; subst hz; exact p1 g3 os3 fun b o hb => hI b o (F2.imm b o hb)
        | succ j => exact p2 g3 os3 hI j v z (by simpa using hv) (by simpa using hz)
      · cases h
    · cases h
  | [], _, _, _, _ :: _, _, _, _, hl, _ => by simp at hl
  | _ :: _, _, _, _, [], _, _, _, hl, _ => by simp at hl

/-- a slot takes what is new, its cells too its own -/
theorem uniq_put (R : Rel B w g s a) (F : Fr w0 g0 w g) {d : Option Tmp} {N : Nat → Prop} {sz : Nat} {xs : List (List PV)} {c : Value} (hc : Own B w g (fun _ => False) N sz xs false c)
    (hnew : ∀ b, N b → b < w0.heap.size → ∃ y, g0.bk y = some b) : ∃ g', Rel B w g' (put s d (.uniq sz xs)) (a.put d c) ∧ Fr w0 g0 w g' := by
  cases d with
  | none => exact ⟨g, R, F⟩
  | some d =>
  rcases hc with ⟨rfl, a', rfl⟩ | ⟨b, vs, el, fr, cap, rfl, h1, h2, h3, h4, h5, h6, h7, h8, h9, h10⟩
  · exact ⟨g, R.put fun t _ => .inl ⟨rfl, _, rfl⟩, F⟩
  · have R0 : Rel B w g (put s (some d) .undef) (a.put (some d) (.slice (some ⟨b, 0, none⟩) xs.length cap)) := R.put fun t _ => AVR.undef
    let g' : Gh := g.up (.slot d) (some b)
    have nob : ∀ y, g.bk y ≠ some b := fun y hy => h9 y hy
    have ebk : ∀ y, y ≠ .slot d → g'.bk y = g.bk y := fun y hy => Gh.up_ne _ _ hy
    have RO : RelO B w g' s.os := by
      refine RelO.grew (Grew.refl w) R.mem (fun k => ebk _ (by simp)) (fun _ _ h => h) (fun b' o h => .inl h) (fun x y b' hx hy => ?_) (fun x b' hx => ?_)
      · by_cases ex : x = .slot d
        · by_cases ey : y = .slot d
          · rw [ex, ey]
          · subst ex; rw [Gh.up_self] at hx; cases hx; rw [ebk y ey] at hy; exact absurd hy (nob y)
        · rw [ebk x ex] at hx
          by_cases ey : y = .slot d
          · subst ey; rw [Gh.up_self] at hy; cases hy; exact absurd hx (nob x)
          · rw [ebk y ey] at hy; exact R.mem.inj x y b' hx hy
      · by_cases ex : x = .slot d
        · subst ex; rw [Gh.up_self] at hx; cases hx; exact ⟨h7, h8⟩
        · rw [ebk x ex] at hx; exact R.mem.lt x b' hx
    have T : Tr some w g s.os w g' s.os := (Grew.refl w).tr R.mem (fun k => ebk _ (by simp)) (fun _ _ h => h)
    have R' : Rel B w g' (put s (some d) .undef) (a.put (some d) (.slice (some ⟨b, 0, none⟩) xs.length cap)) := Rel.ev' R0 RO T (fun t v hv hn b' hb => by
      have hne : t ≠ d := by
        rintro rfl
        rcases slots_set_get (show (s.slots.set t .undef).get t = some v from hv) with ⟨_, h, _⟩ | ⟨h, _⟩
        · rw [h] at hn; cases hn
        · exact h rfl
      exact ⟨(ebk _ (by simpa using hne)).trans hb, rfl, fun o ho => ho⟩)
    have R2 := Rel.put R' (d := some d) (v := .uniq sz xs) (c := .slice (some ⟨b, 0, none⟩) xs.length cap) fun t ht => by
      cases ht
      exact .inr ⟨b, vs, el, fr, cap, Gh.up_self _ _ _, rfl, h1, h2, h3, h4, h5, fun o ho => by have := (h6 o ho).1; cases this⟩
    have e1 : put (put s (some d) .undef) (some d) (.uniq sz xs) = put s (some d) (.uniq sz xs) := by simp [Am.put, Slots.set_set]
    have e2 : (a.put (some d) (.slice (some ⟨b, 0, none⟩) xs.length cap)).put (some d) (.slice (some ⟨b, 0, none⟩) xs.length cap) = a.put (some d) (.slice (some ⟨b, 0, none⟩) xs.length cap) := by
      simp [Act.put]
    rw [e1, e2] at R2
    refine ⟨g', R2, ⟨F.size, F.tape, F.os, F.output, F.imm, F.rest, fun x b' hx hb => ?_, F.inew, F.watch⟩⟩
    by_cases ex : x = .slot d
    · subst ex; rw [Gh.up_self] at hx; cases hx; exact hnew _ h10 hb
    · rw [ebk x ex] at hx; exact F.own x b' hx hb
end
end Go.Am
namespace Go.Am
variable [Env]
section
variable [Base]
variable {P : Program} {H : Hints} {B : Nat} {w w' w0 : World} {g g' g'' g0 g1 : Gh} {os os' os'' os1 : OS} {s : St} {a : Act}
variable {o : Oper} {K : Act → World → Prop} {Q : Exit → Act → World → Prop} {cx : Cx} {r : R1} {call : CallFn}

/-- plain data: whatever else there is -/
def Pure (w : World) (I : Nat → Nat → Prop) (v : AV) (c : Value) : Prop := ∀ (g2 : Gh) (os2 : OS), (∀ b o, I b o → g2.I b o) → AVR w g2 os2 v c

theorem Pure.thaw {I : Nat → Nat → Prop} {x : PV} {c : Value} (h : PVR w I x c) : Pure w I (thaw x) c := fun g2 os2 hI => thaw_rel (h.mono fun b o hb => ⟨hI b o hb, rfl⟩)
theorem Pure.mono {I I' : Nat → Nat → Prop} {v : AV} {c : Value} (h : Pure w I v c) (hI : ∀ b o, I b o → I' b o) : Pure w I' v c := fun g2 os2 h2 => h g2 os2 fun b o hb => h2 b o (hI b o hb)

/-- what a call of its own memory hands back -/
def owOf (t : Nat) : AV → Loc → Prop
  | .row k _ _, y => y = .obj k
  | _, y => y = .slot t
structure OutR (B : Nat) (w : World) (g : Gh) (ow : Loc → Prop) (v : AV) (c : Value) : Prop where
  pure : Pure w g.I (cp v) c
  fresh : ∀ sz xs, v = .fresh sz xs → Own B w g (fun _ => True) (fun b => ∃ y, ow y ∧ g.bk y = some b) sz xs true c
  uniq : ∀ sz xs, v = .uniq sz xs → Own B w g (fun _ => True) (fun b => ∃ y, ow y ∧ g.bk y = some b) sz xs false c

theorem Own.weaken {free free' : Loc → Prop} {N : Nat → Prop} {sz : Nat} {xs : List (List PV)} {sh sh' : Bool} {c : Value} (h : Own B w g free N sz xs sh c) (hf : ∀ y, free y → free' y) (hs : sh = true → sh' = true) : Own B w g free' N sz xs sh' c := by
  rcases h with h | ⟨b, vs, el, fr, cap, h0, h1, h2, h3, h4, h5, h6, h7, h8, h9, h10⟩
  · exact .inl h
  · exact .inr ⟨b, vs, el, fr, cap, h0, h1, h2, h3, h4, h5, fun o ho => ⟨hs (h6 o ho).1, (h6 o ho).2⟩, h7, h8, fun y hy => hf y (h9 y hy), h10⟩

theorem thaw_nf (x : PV) : nf (thaw x) = true := by cases x <;> rfl

theorem out_plain {ow : Loc → Prop} {x : PV} {c : Value} (h : PVR w g.I x c) : OutR B w g ow (thaw x) c :=
  ⟨by rw [cp_thaw]; exact Pure.thaw h, fun sz xs he => (by have := thaw_nf x; rw [he] at this; cases this), fun sz xs he => (by have := thaw_nf x; rw [he] at this; cases this)⟩

theorem out1_rel (R : RelO B w g os) {v v2 : AV} {c : Value} {t : Nat} (h : out1 os v = some (v2, os')) (hv : SVR w g os t v c) : ∃ g', Frz B w g os g' os' ∧ OutR B w g' (owOf t v) v2 c := by
  have plain : ∀ x os1, frz os v = some (x, os1) → ∃ g', Frz B w g os g' os1 ∧ OutR B w g' (owOf t v) (thaw x) c := by
    intro x os1 hx
    obtain ⟨g', F, hp⟩ := frz_rel R (frz_cp hx) hv.cp
    exact ⟨g', F, out_plain hp⟩
  unfold out1 at h
  split at h
  · rename_i k off len
    split at h
    · rename_i sz xs lo sh hk
      have hv' : AVR w g os (.row k off len) c := hv
      split at h
      · rename_i hw
        cases h
        obtain ⟨rfl, rfl⟩ := hw
        obtain ⟨g', F, hI⟩ := share_rel R k
        obtain ⟨o1, ho1, hm⟩ := F.obj k _ hk
        have ho1' : getObj (share os k) k = some (.row sz xs lo true) := by
          unfold share; rw [hk]; exact getObj_set_self hk
        rw [ho1'] at ho1; cases ho1
        obtain ⟨_, hrow⟩ := F.rel.obj k _ ho1'
        have hown : Own B w g' (fun _ => True) (fun b => ∃ y, owOf t (.row k 0 xs.length) y ∧ g'.bk y = some b) sz xs true c := by
          cases hv' with
          | @row _ _ _ sz1 lo1 cap xs1 sh1 ad hk' hl hcap hcur hc =>
            rw [hk] at hk'; cases hk'
            rcases hcur (by simp) (.inr rfl) with ⟨hbn, rfl⟩ | ⟨b, vs, el, fr, hbk, had, hh, hsize⟩
            · have hx : xs = [] := List.eq_nil_of_length_eq_zero (by omega)
              subst hx
              exact .inl ⟨rfl, _, rfl⟩
            · rcases hrow with ⟨h, _⟩ | ⟨b', vs', el', fr', cap', q1, q2, q3, q4, q5, q6, q7⟩
              · rw [F.bk, hbk] at h; cases h
              · rw [F.bk, hbk] at q1; cases q1
                rw [hh] at q2; cases q2
                simp only [Nat.zero_mul] at had
                subst had
                exact .inr ⟨b, vs, el, fr, cap, rfl, hh, q3, by simpa using hsize, hcap, q6, q7, (R.lt _ b hbk).1, (R.lt _ b hbk).2, fun _ _ => trivial, ⟨.obj k, rfl, (F.bk _).trans hbk⟩⟩
        refine ⟨g', F, ⟨?_, fun sz' xs' he => by cases he; exact hown, fun sz' xs' he => by cases he⟩⟩
        -- as plain data
        have hp : PVR w g'.I (.vals sz xs) c := by
          rcases hown with ⟨rfl, ad, rfl⟩ | ⟨b, vs, el, fr, cap, rfl, h1, h2, h3, h4, h5, h6, h7, h8, _, _⟩
          · exact .vnil
          · refine pvr_of_holds h5 h1 h4 (fun o ho => ?_)
            cases hv' with
            | row hk' hl hcap hcur hc =>
              rw [hk] at hk'; cases hk'
              rcases hcur (by simp) (.inr rfl) with ⟨_, hc0⟩ | ⟨bb, _, _, _, hbk, had, _, _⟩
              · have : xs.length = 0 := by omega
                rw [this] at ho; simp at ho
              · simp at had
                rw [← had] at hbk
                exact hI b sz xs lo sh hbk hk o ho
        exact Pure.thaw (x := .vals sz xs) hp
      · split at h
        · rename_i sz' ys hra
          cases h
          have hx : frz os (.row k off len) = some (.vals sz' ys, share os k) := by simp only [frz]; rw [hra]
          exact plain _ _ hx
        · cases h
    · cases h
  · rename_i sz xs
    cases h
    have hr : FR w g t sz xs c := hv
    refine ⟨g, Frz.refl R, ⟨?_, fun sz' xs' he => ?_, fun sz' xs' he => by cases he⟩⟩
    · have hp : PVR w g.I (.vals sz xs) c := by
        rcases hr with ⟨rfl, ad, rfl⟩ | ⟨b, vs, el, fr, cap, _, _, _, _, _, _, hp, _⟩
        · exact .vnil
        · exact hp
      exact Pure.thaw (x := .vals sz xs) hp
    · cases he
      rcases hr with ⟨rfl, ad, rfl⟩ | ⟨b, vs, el, fr, cap, h1, rfl, h3, h4, h5, h6, hp, h8⟩
      · exact .inl ⟨rfl, _, rfl⟩
      · exact .inr ⟨b, vs, el, fr, cap, rfl, h3, h4, h5, h6, holds_of_pvr hp h3, fun o ho => ⟨rfl, h8 o ho⟩, (R.lt _ b h1).1, (R.lt _ b h1).2, fun _ _ => trivial, ⟨.slot t, rfl, h1⟩⟩
  · rename_i sz xs
    cases h
    have hr : UR w g t sz xs c := hv
    refine ⟨g, Frz.refl R, ⟨fun _ _ _ => .undef, fun sz' xs' he => (by cases he), fun sz' xs' he => ?_⟩⟩
    cases he
    rcases hr with ⟨rfl, ad, rfl⟩ | ⟨b, vs, el, fr, cap, h1, rfl, h3, h4, h5, h6, h7, h8⟩
    · exact .inl ⟨rfl, _, rfl⟩
    · exact .inr ⟨b, vs, el, fr, cap, rfl, h3, h4, h5, h6, h7, fun o ho => absurd ho (h8 o), (R.lt _ b h1).1, (R.lt _ b h1).2, fun _ _ => trivial, ⟨.slot t, rfl, h1⟩⟩
  · split at h
    · rename_i y os1 hy
      cases h
      exact plain _ _ hy
    · cases h

/-- a row that nobody else looks at -/
theorem outU_rel (R : RelO B w g os) {v v2 : AV} {c : Value} {t : Nat} (h : outU os v = some (v2, os')) (hv : SVR w g os t v c) : ∃ g', Frz B w g os g' os' ∧ OutR B w g' (owOf t v) v2 c := by
  unfold outU at h
  split at h
  · rename_i k off len
    split at h
    · rename_i sz xs lo hk
      split at h
      · rename_i hw
        cases h
        obtain ⟨rfl, rfl⟩ := hw
        have hv' : AVR w g os (.row k 0 xs.length) c := hv
        refine ⟨g, Frz.refl R, ⟨fun _ _ _ => .undef, fun sz' xs' he => (by cases he), fun sz' xs' he => ?_⟩⟩
        cases he
        obtain ⟨_, hrow⟩ := R.obj k _ hk
        cases hv' with
        | @row _ _ _ sz1 lo1 cap xs1 sh1 ad hk' hl hcap hcur hc =>
          rw [hk] at hk'; cases hk'
          rcases hcur (by simp) (.inr rfl) with ⟨hbn, rfl⟩ | ⟨b, vs, el, fr, hbk, had, hh, hsize⟩
          · have hx : xs = [] := List.eq_nil_of_length_eq_zero (by omega)
            subst hx
            exact .inl ⟨rfl, _, rfl⟩
          · rcases hrow with ⟨h, _⟩ | ⟨b', vs', el', fr', cap', q1, q2, q3, q4, q5, q6, q7⟩
            · rw [hbk] at h; cases h
            · rw [hbk] at q1; cases q1
              rw [hh] at q2; cases q2
              simp only [Nat.zero_mul] at had
              subst had
              exact .inr ⟨b, vs, el, fr, cap, rfl, hh, q3, by simpa using hsize, hcap, q6, q7, (R.lt _ b hbk).1, (R.lt _ b hbk).2, fun _ _ => trivial, ⟨.obj k, rfl, hbk⟩⟩
      · cases h
    · cases h
  · cases h
    refine ⟨g, Frz.refl R, ⟨fun _ _ _ => .undef, fun sz' xs' he => (by cases he), fun sz' xs' he => ?_⟩⟩
    cases he
    rcases (hv : FR w g t 0 [] c) with ⟨_, a, rfl⟩ | ⟨b, vs, el, fr, cap, h1, rfl, h3, h4, h5, h6, hp, h8⟩
    · exact .inl ⟨rfl, _, rfl⟩
    · exact .inr ⟨b, vs, el, fr, cap, rfl, h3, h4, h5, h6, holds_of_pvr hp h3, fun o ho => (by have := h8 o ho; simp at this), (R.lt _ b h1).1, (R.lt _ b h1).2, fun _ _ => trivial, ⟨.slot t, rfl, h1⟩⟩
  · rename_i sz xs
    cases h
    have hr : UR w g t sz xs c := hv
    refine ⟨g, Frz.refl R, ⟨fun _ _ _ => .undef, fun sz' xs' he => (by cases he), fun sz' xs' he => ?_⟩⟩
    cases he
    rcases hr with ⟨rfl, ad, rfl⟩ | ⟨b, vs, el, fr, cap, h1, rfl, h3, h4, h5, h6, h7, h8⟩
    · exact .inl ⟨rfl, _, rfl⟩
    · exact .inr ⟨b, vs, el, fr, cap, rfl, h3, h4, h5, h6, h7, fun o ho => absurd ho (h8 o), (R.lt _ b h1).1, (R.lt _ b h1).2, fun _ _ => trivial, ⟨.slot t, rfl, h1⟩⟩
  · cases h

theorem outs_rel {B : Nat} {w : World} {g0 : Gh} {os0 : OS} : ∀ {l l2 : List AV} {g : Gh} {os os' : OS} (_ : Frz B w g0 os0 g os) {vs : List Value}, outs os l = some (l2, os') → l.length = vs.length → (∀ (j : Nat) (v : AV) (u : Value), l[j]? = some v → vs[j]? = some u → AVR w g0 os0 v u) →
    ∃ g', Frz B w g os g' os' ∧ l2.length = vs.length ∧ ∀ (j : Nat) (v : AV) (u : Value), l2[j]? = some v → vs[j]? = some u → Pure w g'.I v u
  | [], l2, g, os, os', F0, [], h, hl, hr => by
    simp only [outs] at h; cases h
    exact ⟨g, Frz.refl F0.rel, rfl, fun j v u h => by simp at h⟩
  | x :: xs, l2, g, os, os', F0, u :: vs, h, hl, hr => by
    simp only [outs] at h
    split at h
    · rename_i y os1 hy
      split at h
      · rename_i ys os2 hys
        cases h
        obtain ⟨g1, F1, p1⟩ := out1_rel F0.rel hy (.of 0 ((hr 0 x u rfl rfl).ev F0.tr))
        obtain ⟨g2, F2, l2, p2⟩ := outs_rel (F0.trans F1) hys (by simpa using hl) (fun j v u hv hu => hr (j + 1) v u (by simpa using hv) (by simpa using hu))
        refine ⟨g2, F1.trans F2, by simp [l2], fun j v z hv hz => ?_⟩
        cases j with
        | zero => simp at hv hz; subst hv; subst hz; exact p1.pure.mono F2.imm
        | succ j => exact p2 j v z (by simpa using hv) (by simpa using hz)
      · cases h
    · cases h
  | [], _, _, _, _, _, _ :: _, _, hl, _ => by simp at hl
  | _ :: _, _, _, _, _, _, [], _, hl, _ => by simp at hl

/-- the caller's state behind a call of its own memory -/
theorem after_call (R : Rel B w g s a) (G : Grew w w') (hI : ∀ b o, g.I b o → g'.I b o) (hInew : ∀ b o, g'.I b o → b < w.heap.size → g.I b o) (hIlt : ∀ b o, g'.I b o → b < w'.heap.size) :
    Rel B w' { bk := g.bk, I := g'.I, W := g.W } s a ∧ Fr w g w' { bk := g.bk, I := g'.I, W := g.W } := by
  have hlt0 : ∀ x b, g.bk x = some b → b < w.heap.size := fun x b hb => (R.mem.lt x b hb).2
  have RO : RelO B w' { bk := g.bk, I := g'.I, W := g.W } s.os := RelO.grew G R.mem (fun _ => rfl) hI (fun b o ho => by
    rcases Nat.lt_or_ge b w.heap.size with h1 | h1
    · exact .inl (hInew b o ho h1)
    · exact .inr ⟨hIlt b o ho, fun k hk => absurd (hlt0 _ b hk) (by omega)⟩) R.mem.inj (fun x b hb => ⟨(R.mem.lt x b hb).1, Nat.lt_of_lt_of_le (hlt0 x b hb) G.size⟩)
  exact ⟨Rel.ev R RO (G.tr R.mem (fun _ => rfl) hI) (fun t b hb => ⟨hb, G.old b (hlt0 _ b hb), fun o ho => hInew b o ho (hlt0 _ b hb)⟩),
    Grew.fr G hI R.mem.ilt (fun x b hx _ => ⟨x, hx⟩) (fun b o ho hb => .inl (hInew b o ho hb))⟩

/-- what is handed back goes into the caller's state -/
theorem take_out (hB : B ≤ w.heap.size) (R : Rel B w g s a) (G : Grew w w') (hbk0 : ∀ y b, g'.bk y = some b → w.heap.size ≤ b) (hI : ∀ b o, g.I b o → g'.I b o) (hInew : ∀ b o, g'.I b o → b < w.heap.size → g.I b o) (hIlt : ∀ b o, g'.I b o → b < w'.heap.size)
    {ow : Loc → Prop} {v : AV} {c : Value} (h : OutR B w' g' ow v c) (hst : Pure w' g'.I v c ∨ nf v = false) (d : Option Tmp) : ∃ g2, Rel B w' g2 (put s d v) (a.put d c) ∧ Fr w g w' g2 := by
  have hlt0 : ∀ x b, g.bk x = some b → b < w.heap.size := fun x b hb => (R.mem.lt x b hb).2
  obtain ⟨R2, F2⟩ := after_call R G hI hInew hIlt
  have own : ∀ {sz : Nat} {xs : List (List PV)} {sh : Bool}, Own B w' g' (fun _ => True) (fun b => ∃ y, ow y ∧ g'.bk y = some b) sz xs sh c → Own B w' { bk := g.bk, I := g'.I, W := g.W } (fun _ => False) (fun b => w.heap.size ≤ b) sz xs sh c := by
    intro sz xs sh h
    rcases h with h | ⟨b, vs, el, fr, cap, h0, h1, h2, h3, h4, h5, h6, h7, h8, h9, ⟨y, _, hy⟩⟩
    · exact .inl h
    · have hge := hbk0 y b hy
      exact .inr ⟨b, vs, el, fr, cap, h0, h1, h2, h3, h4, h5, h6, h7, h8, fun x hx => absurd (hlt0 x b hx) (by omega), hge⟩
  cases v with
  | fresh sz xs => exact fresh_put R2 F2 (own (h.fresh sz xs rfl)) (fun b hb hlt => by omega)
  | uniq sz xs => exact uniq_put R2 F2 (own (h.uniq sz xs rfl)) (fun b hb hlt => by omega)
  | _ =>
    rcases hst with hst | hst
    · exact ⟨_, R2.put fun t _ => SVR.of t (hst _ s.os fun _ _ h => h), F2⟩
    · cases hst
end
end Go.Am
namespace Go.Am
variable [Env]
section
variable [Base]
variable {P : Program} {H : Hints} {B : Nat} {w w' w0 : World} {g g' g'' g0 g1 : Gh} {os os' os'' os1 : OS} {s : St} {a : Act}
variable {o : Oper} {K : Act → World → Prop} {Q : Exit → Act → World → Prop} {cx : Cx} {r : R1} {call : CallFn}

theorem wp_enter {f : FuncId} {vs : Array Value} (h : (execOp a.eval o).run P w = .ok (.enter f vs) w) {E : Ending → World → Prop} (hc : Calls P f vs w E) (h1 : ∀ v w', E (.returned v) w' → K (a.put o.dst v) w') (h2 : ∀ ch w', E (.panicked ch) w' → Q (.panic ch) a w')
    (h3 : ∀ w', ¬ E .outgrown w') : o.wp P a w K Q := by
  unfold Oper.wp
  rw [h]
  show Calls P f vs w _
  refine hc.mono fun e w' he => ?_
  cases e with
  | returned v => exact h1 v w' he
  | panicked ch => exact h2 ch w' he
  | outgrown => exact absurd he (h3 w')

theorem fr_grew {gc gc' : Gh} (F : Fr w gc w' gc') (h : ∀ x, gc.bk x = none) : Grew w w' :=
  ⟨F.size, F.tape, F.os, F.output, fun b hb => F.rest b hb fun x => by rw [h x]; simp⟩

/-- a call of mode 0 -/
theorem call0_wp (hB : B ≤ w.heap.size) (hC : CallOK P call) (R : Rel B w g s a) {c : Call} {f : FuncId} {args : List AV} {u : Nat} {res : Res} (hop : o.op = .call c) (hcal : calleeOf P s c = some (f, args)) (hmode : H.mode f = 0)
    (h : modeCall H call u s.os f args = some res) (M : Meets B w g a K Q (fin s o.dst res)) : o.wp P a w K Q := by
  unfold modeCall at h
  rw [hmode] at h
  simp only at h
  split at h
  · rename_i args' os1 hfa
    -- the callee and how it ends
    have key : ∀ rc, call f args' [] 0 = some rc → ∃ vs g1, (execOp a.eval o).run P w = .ok (.enter f vs) w ∧ Frz B w g s.os g1 os1 ∧ Calls P f vs w (Ends B w ⟨fun _ => none, g1.I, fun _ _ => False⟩ rc) := by
      intro rc hrc
      obtain ⟨hE, hcall⟩ := hC f args' [] 0 rc hrc
      obtain ⟨vs, hex, hcps, hsv⟩ := exec_call R hop hcal hE
      have hlen : args.length = vs.size := by rw [hcps.1, cps_length]
      obtain ⟨g1, F1, l1, p1⟩ := frzArgs_rel (Frz.refl R.mem) (vs := vs.toList) hfa (by simpa using hlen) (fun j v u hv hu => hsv j v u hv (by simpa using hu))
      refine ⟨vs, g1, hex, F1, hcall B w ⟨fun _ => none, g1.I, fun _ _ => False⟩ vs hB ⟨fun k o h => (by cases h), fun k b h => (by cases h), fun x y b h => (by cases h), fun x b h => (by cases h), F1.rel.ilt, fun v c h => h.elim, F1.rel.base⟩ (fun _ => rfl) (fun v c h => h.elim) ⟨by rw [l1]; simp, fun j v u hv hu => ?_⟩⟩
      exact p1 ⟨fun _ => none, g1.I, fun _ _ => False⟩ [] (fun _ _ h => h) j v u hv (by simpa using hu)
    split at h
    · rename_i v os' hc
      split at h
      · rename_i v2 os2 hout
        cases h
        obtain ⟨vs, g1, hex, F1, hcalls⟩ := key _ hc
        have R1 : Rel B w g1 { s with os := os1 } a := F1.state R
        refine wp_enter hex hcalls (fun c w' hE => ?_) (fun ch w' hE => hE.elim) (fun w' hE => hE.elim)
        obtain ⟨gc', RC, ⟨t, hv⟩, FC⟩ := hE
        have G := fr_grew FC (fun _ => rfl)
        have hbk : ∀ y b, gc'.bk y = some b → w.heap.size ≤ b := fun y b hb => by
          rcases Nat.lt_or_ge b w.heap.size with h1 | h1
          · obtain ⟨x, hx⟩ := FC.own y b hb h1; cases hx
          · exact h1
        have hIn : ∀ b o, gc'.I b o → b < w.heap.size → g1.I b o := fun b o hi hb => by
          rcases FC.inew b o hi hb with h1 | ⟨x, hx⟩
          · exact h1
          · cases hx
        have fin2 : ∀ (gc2 : Gh) (os3 : OS) (ow : Loc → Prop), Frz B w' gc' os' gc2 os3 → OutR B w' gc2 ow v2 c → (Pure w' gc2.I v2 c ∨ nf v2 = false) → K (a.put o.dst c) w' := by
          intro gc2 os3 ow F3 ho hp
          obtain ⟨g2, R2, F2⟩ := take_out (d := o.dst) hB R1 G (g' := gc2) (fun y b hb => hbk y b (by rw [← F3.bk]; exact hb)) (fun b o hi => F3.imm b o (FC.imm b o hi).1) (fun b o hi hb => by
            rcases F3.inew b o hi with h1 | ⟨k, hk⟩
            · exact hIn b o h1 hb
            · exact absurd (hbk _ b hk) (by omega)) F3.rel.ilt ho hp
          exact M _ _ g2 R2 (F1.fr.trans F2)
        unfold outM at hout
        split at hout
        · obtain ⟨gc2, F3, ho⟩ := outU_rel RC hout hv
          refine fin2 gc2 _ _ F3 ho ?_
          cases hnf : nf v2 with
          | false => exact .inr rfl
          | true =>
            have : cp v2 = v2 := by cases v2 <;> first | rfl | cases hnf
            have hp := ho.pure
            rw [this] at hp
            exact .inl hp
        unfold outV at hout
        split at hout
        · rename_i l
          split at hout
          · rename_i l2 os3 hl
            cases hout
            have hv' : AVR w' gc' os' (.tup l) c := hv
            cases hv' with
            | tup hs he =>
              rename_i us
              obtain ⟨gc2, F3, l3, p3⟩ := outs_rel (Frz.refl RC) (vs := us.toList) hl (by simpa using hs.symm) (fun j v u hv hu => he j v u hv (by simpa using hu))
              have hp : Pure w' gc2.I (.tup l2) (.tuple us) := fun g3 os4 hI => .tup (by rw [l3]; simp) fun j v u hv hu => p3 j v u hv (by simpa using hu) g3 os4 hI
              exact fin2 gc2 _ (fun _ => True) F3 ⟨hp, fun sz xs he => (by cases he), fun sz xs he => (by cases he)⟩ (.inl hp)
          · cases hout
        · obtain ⟨gc2, F3, ho⟩ := out1_rel RC hout hv
          refine fin2 gc2 _ _ F3 ho ?_
          cases hnf : nf v2 with
          | false => exact .inr rfl
          | true =>
            have : cp v2 = v2 := by cases v2 <;> first | rfl | cases hnf
            have hp := ho.pure
            rw [this] at hp
            exact .inl hp
      · cases h
    · rename_i v os' hc
      split at h
      · rename_i x os2 hx
        cases h
        obtain ⟨vs, g1, hex, F1, hcalls⟩ := key _ hc
        have R1 : Rel B w g1 { s with os := os1 } a := F1.state R
        refine wp_enter hex hcalls (fun c w' hE => hE.elim) (fun ch w' hE => ?_) (fun w' hE => hE.elim)
        obtain ⟨gc', c, rfl, RC, hv, FC⟩ := hE
        have G := fr_grew FC (fun _ => rfl)
        have hbk : ∀ y b, gc'.bk y = some b → w.heap.size ≤ b := fun y b hb => by
          rcases Nat.lt_or_ge b w.heap.size with h1 | h1
          · obtain ⟨x, hx⟩ := FC.own y b hb h1; cases hx
          · exact h1
        have hIn : ∀ b o, gc'.I b o → b < w.heap.size → g1.I b o := fun b o hi hb => by
          rcases FC.inew b o hi hb with h1 | ⟨x, hx⟩
          · exact h1
          · cases hx
        obtain ⟨gc2, F3, hp⟩ := frz_rel RC hx hv
        obtain ⟨R2, F2⟩ := after_call R1 G (g' := gc2) (fun b o hi => F3.imm b o (FC.imm b o hi).1) (fun b o hi hb => by
          rcases F3.inew b o hi with h1 | ⟨k, hk⟩
          · exact hIn b o h1 hb
          · exact absurd (hbk _ b hk) (by omega)) F3.rel.ilt
        exact M c _ _ R2 (thaw_rel hp) (F1.fr.trans F2)
      · cases h
    · cases h
  · cases h
end
end Go.Am
namespace Go.Am
variable [Env]
section
variable [Base]
variable {P : Program} {H : Hints} {B : Nat} {w w' w0 : World} {g g' g'' g0 g1 : Gh} {os os' os'' os1 os0 : OS} {s : St} {a : Act}

/-- a renaming of the keys of some units -/
structure RenOK (f : Nat → Option Nat) (us : List Nat) : Prop where
  dom : ∀ k, us.contains (k / 64) = true ↔ ∃ k', f k = some k'
  inj : ∀ k j c, f k = some c → f j = some c → k = j

theorem toIdx_some {us : List Nat} {k c : Nat} (h : toIdx us 0 k = some c) : ∃ i, us[i]? = some (k / 64) ∧ c / 64 = i ∧ c % 64 = k % 64 ∧ i < us.length := by
  unfold toIdx at h
  split at h
  · rename_i i hi
    cases h
    obtain ⟨hlt, he, _⟩ := List.idxOf?_eq_some_iff.1 hi
    refine ⟨i, by rw [List.getElem?_eq_getElem hlt, he], ?_, ?_, hlt⟩
    · rw [Nat.zero_add]; omega
    · rw [Nat.zero_add]; omega
  · cases h

theorem toIdx_ok (us : List Nat) : RenOK (toIdx us 0) us where
  dom k := by
    rw [List.contains_iff_mem]
    constructor
    · intro h
      unfold toIdx
      cases hi : us.idxOf? (k / 64) with
      | none => exact absurd h (List.idxOf?_eq_none_iff.1 hi)
      | some i => exact ⟨_, rfl⟩
    · rintro ⟨c, h⟩
      obtain ⟨i, h1, _⟩ := toIdx_some h
      exact List.mem_of_getElem? h1
  inj k j c h1 h2 := by
    obtain ⟨i, e1, e2, e3, _⟩ := toIdx_some h1
    obtain ⟨i', e4, e5, e6, _⟩ := toIdx_some h2
    have : i = i' := by omega
    subst this
    rw [e1] at e4
    have e7 : k / 64 = j / 64 := by simpa using e4
    omega

theorem lend_get {f : Nat → Option Nat} {us : List Nat} (F : RenOK f us) : ∀ {os os0 : OS}, lend f us os = some os0 →
    (∀ k o, getObj os k = some o → us.contains (k / 64) = true → ∃ k' o', f k = some k' ∧ renO f o = some o' ∧ getObj os0 k' = some o') ∧
    (∀ k' o', getObj os0 k' = some o' → ∃ k o, getObj os k = some o ∧ f k = some k' ∧ renO f o = some o')
  | [], os0, h => by
    cases h
    exact ⟨fun k o h => (by cases h), fun k o h => (by cases h)⟩
  | (k, o) :: m, os0, h => by
    simp only [lend] at h
    split at h
    · rename_i m' hm
      obtain ⟨i1, i2⟩ := lend_get F hm
      split at h
      · rename_i hc
        split at h
        · rename_i k' o' hk ho
          cases h
          refine ⟨fun j x hj hjc => ?_, fun j' x' hj => ?_⟩
          · rw [getObj_cons] at hj
            split at hj
            · rename_i e; subst e; cases hj
              exact ⟨k', o', hk, ho, by rw [getObj_cons, if_pos rfl]⟩
            · rename_i hne
              obtain ⟨j', x', e1, e2, e3⟩ := i1 j x hj hjc
              refine ⟨j', x', e1, e2, ?_⟩
              rw [getObj_cons, if_neg ?_]
              · exact e3
              · rintro rfl; exact hne (F.inj _ _ _ hk e1)
          · rw [getObj_cons] at hj
            split at hj
            · rename_i e; subst e; cases hj
              exact ⟨k, o, by rw [getObj_cons, if_pos rfl], hk, ho⟩
            · rename_i hne
              obtain ⟨j, x, e1, e2, e3⟩ := i2 j' x' hj
              refine ⟨j, x, ?_, e2, e3⟩
              rw [getObj_cons, if_neg ?_]
              · exact e1
              · rintro rfl; rw [hk] at e2; cases e2; exact hne rfl
        · cases h
      · rename_i hc
        cases h
        refine ⟨fun j x hj hjc => ?_, fun j' x' hj => ?_⟩
        · rw [getObj_cons] at hj
          split at hj
          · rename_i e; subst e; exact absurd hjc hc
          · exact i1 j x hj hjc
        · obtain ⟨j, x, e1, e2, e3⟩ := i2 j' x' hj
          refine ⟨j, x, ?_, e2, e3⟩
          rw [getObj_cons, if_neg ?_]
          · exact e1
          · rintro rfl; exact hc ((F.dom _).2 ⟨_, e2⟩)
    · cases h

theorem dropU_get {us : List Nat} : ∀ {os : OS} {k : Nat}, getObj (dropU us os) k = if us.contains (k / 64) then none else getObj os k
  | [], k => by simp [dropU, getObj]
  | (j, o) :: m, k => by
    simp only [dropU]
    have ih := dropU_get (us := us) (os := m) (k := k)
    split
    · rename_i hc
      rw [ih, getObj_cons]
      split
      · rfl
      · rename_i hk
        split
        · rename_i e; subst e; exact absurd hc hk
        · rfl
    · rename_i hc
      rw [getObj_cons, getObj_cons, ih]
      split
      · rename_i e; subst e; rw [if_neg hc]
      · rfl

theorem app_get : ∀ {m os : OS} {k : Nat}, getObj (m ++ os) k = match getObj m k with | some o => some o | none => getObj os k
  | [], os, k => rfl
  | (j, o) :: m, os, k => by
    rw [List.cons_append, getObj_cons, getObj_cons]
    split
    · rfl
    · exact app_get

/-- the same, whatever is watched -/
theorem AVR.gh {g2 : Gh} (hb : ∀ y, g2.bk y = g.bk y) (hi : ∀ b o, g.I b o → g2.I b o) {v : AV} {c : Value} (h : AVR w g os v c) : AVR w g2 os v c :=
  h.ev (Tr.world (fun k => hb _) (fun b o hI => ⟨hi b o hI, rfl⟩) (fun _ _ _ vs _ _ h => ⟨vs, h, rfl⟩))

theorem OEv.ren {f : Nat → Option Nat} {o o' : Obj} {b : Option Nat} {I' : Nat → Nat → Prop} (h : renO f o = some o') : OEv b b w w I' o o' := by
  cases o with
  | cells cs =>
    simp only [renO] at h
    split at h
    · cases h; rfl
    · cases h
  | map es =>
    simp only [renO] at h
    split at h
    · cases h; rfl
    · cases h
  | row sz xs lo sh => cases h; exact OEv.refl (fun bb _ vs _ _ hv => ⟨vs, hv, rfl⟩) _
  | iter s n => cases h; rfl

theorem renEs_get {f : Nat → Option Nat} : ∀ {es ds : List (PV × AV)}, renEs f es = some ds → ds.length = es.length ∧ ∀ (j : Nat) (d : PV × AV), ds[j]? = some d → ∃ v, es[j]? = some (d.1, v) ∧ ren f v = some d.2
  | [], ds, h => by cases h; exact ⟨rfl, fun j d hd => by simp at hd⟩
  | (k, v) :: es, ds, h => by
    simp only [renEs] at h
    split at h
    · rename_i v' es' hv hes
      cases h
      obtain ⟨h1, h2⟩ := renEs_get hes
      refine ⟨by simp [h1], fun j d hd => ?_⟩
      cases j with
      | zero => simp at hd; subst hd; exact ⟨v, rfl, hv⟩
      | succ j => simpa using h2 j d (by simpa using hd)
    · cases h

theorem rens_get' {f : Nat → Option Nat} {cs ds : List AV} (h : rens f cs = some ds) (j : Nat) (d : AV) (hd : ds[j]? = some d) : ∃ c, cs[j]? = some c ∧ ren f c = some d := by
  obtain ⟨h1, h2⟩ := rens_get h
  have hlt : j < cs.length := by rw [← h1]; exact (List.getElem?_eq_some_iff.1 hd).1
  obtain ⟨d', e1, e2⟩ := h2 j _ (List.getElem?_eq_getElem hlt)
  rw [hd] at e1; cases e1
  exact ⟨_, List.getElem?_eq_getElem hlt, e2⟩

/-- a thing, renamed: what its parts stand for is carried along -/
theorem OR.ren {f : Nat → Option Nat} {k k' : Nat} {o o' : Obj} (h : OR w g os k o) (ho : renO f o = some o') (tv : ∀ v v' c, ren f v = some v' → AVR w g os v c → AVR w' g' os' v' c) (hI : ∀ b o, g.I b o → g'.I b o ∧ w'.cell? ⟨b, o, none⟩ = w.cell? ⟨b, o, none⟩)
    (hbk : g'.bk (.obj k') = g.bk (.obj k)) (hh : ∀ b, g.bk (.obj k) = some b → w'.heap[b]? = w.heap[b]? ∧ ∀ o, g'.I b o → g.I b o) : OR w' g' os' k' o' := by
  cases o with
  | cells cs =>
    simp only [renO] at ho
    split at ho
    · rename_i ds hds
      cases ho
      obtain ⟨b, vs, el, h1, h2, h3, h4, h5⟩ := h
      obtain ⟨e1, e2⟩ := hh b h1
      obtain ⟨l1, _⟩ := rens_get hds
      refine ⟨b, vs, el, hbk.trans h1, e1.trans h2, by rw [l1]; exact h3, fun j d v hd hv => ?_, fun o ho => h5 o (e2 o ho)⟩
      obtain ⟨c, hc, hr⟩ := rens_get' hds j d hd
      exact ⟨tv c d v hr (h4 j c v hc hv).1, (h4 j c v hc hv).2⟩
    · cases ho
  | map es =>
    simp only [renO] at ho
    split at ho
    · rename_i ds hds
      cases ho
      obtain ⟨b, mes, clk, h1, h2, h3, h4, h5⟩ := h
      obtain ⟨e1, e2⟩ := hh b h1
      obtain ⟨l1, l2⟩ := renEs_get hds
      refine ⟨b, mes, clk, hbk.trans h1, e1.trans h2, by rw [l1]; exact h3, fun j d v hd hv => ?_, fun o ho => h5 o (e2 o ho)⟩
      obtain ⟨c, hc, hr⟩ := l2 j d hd
      exact ⟨(h4 j _ v hc hv).1.mono hI, tv c d.2 v.val hr (h4 j _ v hc hv).2⟩
    · cases ho
  | iter s n =>
    cases ho
    obtain ⟨b, h1, h2⟩ := h
    exact ⟨b, hbk.trans h1, (hh b h1).1.trans h2⟩
  | row sz xs lo sh =>
    cases ho
    obtain ⟨h0, h⟩ := h
    refine ⟨h0, ?_⟩
    rcases h with ⟨h1, h2⟩ | ⟨b, vs, el, fr, cap, h1, h2, h3, h4, h5, h6, h7⟩
    · exact .inl ⟨hbk.trans h1, h2⟩
    · obtain ⟨e1, e2⟩ := hh b h1
      exact .inr ⟨b, vs, el, fr, cap, hbk.trans h1, e1.trans h2, h3, h4, h5, h6.mono hI, fun o ho => h7 o (e2 o ho)⟩

open Classical in
/-- where the renamed things lie -/
noncomputable def lentObj (f : Nat → Option Nat) (bk : Loc → Option Nat) (k' : Nat) : Option Nat := if h : ∃ k, f k = some k' then bk (.obj (Classical.choose h)) else none
noncomputable def lentBk (f : Nat → Option Nat) (bk : Loc → Option Nat) : Loc → Option Nat
  | .slot _ => none
  | .obj k' => lentObj f bk k'

theorem lentBk_eq {f : Nat → Option Nat} {us : List Nat} (F : RenOK f us) (bk : Loc → Option Nat) {k k' : Nat} (h : f k = some k') : lentBk f bk (.obj k') = bk (.obj k) := by
  have hex : ∃ k, f k = some k' := ⟨k, h⟩
  have : Classical.choose hex = k := F.inj _ _ _ (Classical.choose_spec hex) h
  show lentObj f bk k' = _
  unfold lentObj
  rw [dif_pos hex, this]
theorem lentBk_some {f : Nat → Option Nat} (bk : Loc → Option Nat) {y : Loc} {b : Nat} (h : lentBk f bk y = some b) : ∃ k k', y = .obj k' ∧ f k = some k' ∧ bk (.obj k) = some b := by
  cases y with
  | slot t => cases h
  | obj k' =>
    have h' : lentObj f bk k' = some b := h
    unfold lentObj at h'
    by_cases hex : ∃ k, f k = some k'
    · rw [dif_pos hex] at h'
      exact ⟨_, k', rfl, Classical.choose_spec hex, h'⟩
    · rw [dif_neg hex] at h'; cases h'

/-- the callee's own look at what is lent -/
noncomputable def lentG (f : Nat → Option Nat) (w : World) (g : Gh) (os0 : OS) : Gh :=
  { bk := lentBk f g.bk, I := g.I, W := fun v c => AVR w { bk := lentBk f g.bk, I := g.I, W := fun _ _ => False } os0 v c }
theorem lentG_W {f : Nat → Option Nat} {v : AV} {c : Value} : (lentG f w g os0).W v c ↔ AVR w (lentG f w g os0) os0 v c := by
  constructor
  · intro h
    have h' : AVR w { bk := lentBk f g.bk, I := g.I, W := fun _ _ => False } os0 v c := h
    exact AVR.gh (g := { bk := lentBk f g.bk, I := g.I, W := fun _ _ => False }) (g2 := lentG f w g os0) (fun _ => rfl) (fun _ _ h => h) h'
  · intro h
    exact AVR.gh (g := lentG f w g os0) (g2 := { bk := lentBk f g.bk, I := g.I, W := fun _ _ => False }) (fun _ => rfl) (fun _ _ h => h) h

theorem lend_rel {f : Nat → Option Nat} {us : List Nat} (F : RenOK f us) (R : RelO B w g os) (h : lend f us os = some os0) :
    RelO B w (lentG f w g os0) os0 ∧ Tr f w g os w (lentG f w g os0) os0 ∧ ∀ v c, AVR w (lentG f w g os0) os0 v c → (lentG f w g os0).W v c := by
  obtain ⟨i1, i2⟩ := lend_get F h
  have hbk : ∀ {k k'}, f k = some k' → (lentG f w g os0).bk (.obj k') = g.bk (.obj k) := fun h => lentBk_eq F g.bk h
  have T : Tr f w g os w (lentG f w g os0) os0 := by
    refine ⟨fun b o hi => ⟨hi, rfl⟩, fun k k' o hk hf => ?_⟩
    obtain ⟨k2, o', e1, e2, e3⟩ := i1 k o hk ((F.dom k).2 ⟨k', hf⟩)
    rw [hf] at e1; cases e1
    exact ⟨o', e3, by rw [hbk hf]; exact OEv.ren e2⟩
  refine ⟨⟨fun k' o' ho => ?_, fun k' b hb => ?_, fun x y b hx hy => ?_, fun x b hx => ?_, R.ilt, fun v c hv => lentG_W.1 hv, R.base⟩, T, fun v c hv => lentG_W.2 hv⟩
  · obtain ⟨k, o, e1, e2, e3⟩ := i2 k' o' ho
    exact (R.obj k o e1).ren e3 (fun v v' c hr hv => hv.tr T v' hr) (fun b o hi => ⟨hi, rfl⟩) (hbk e2) (fun b _ => ⟨rfl, fun _ h => h⟩)
  · obtain ⟨k, k2, e1, e2, e3⟩ := lentBk_some (f := f) g.bk (y := .obj k') hb
    cases e1
    obtain ⟨o, ho⟩ := R.dom k b e3
    obtain ⟨k3, o', q1, _, q3⟩ := i1 k o ho ((F.dom k).2 ⟨_, e2⟩)
    rw [e2] at q1; cases q1
    exact ⟨o', q3⟩
  · obtain ⟨k, k2, rfl, e2, e3⟩ := lentBk_some (f := f) g.bk (y := x) hx
    obtain ⟨j, j2, rfl, q2, q3⟩ := lentBk_some (f := f) g.bk (y := y) hy
    have := R.inj _ _ b e3 q3
    cases this
    rw [e2] at q2; cases q2
    rfl
  · obtain ⟨k, k2, rfl, e2, e3⟩ := lentBk_some (f := f) g.bk (y := x) hx
    exact R.lt _ b e3
end
end Go.Am
namespace Go.Am
variable [Env]
section
variable [Base]
variable {P : Program} {H : Hints} {B : Nat} {w w' w0 : World} {g g' g'' g0 g1 gc gc1 : Gh} {os os' os'' os1 os0 osL os2 : OS} {s : St} {a : Act}

theorem ofIdx_some {us : List Nat} {k c : Nat} (h : ofIdx us 0 k = some c) : us[k / 64]? = some (c / 64) ∧ c % 64 = k % 64 := by
  unfold ofIdx at h
  rw [if_neg (by omega)] at h
  split at h
  · rename_i u hu
    cases h
    rw [Nat.sub_zero] at hu
    exact ⟨by rw [hu]; congr 1; omega, by omega⟩
  · cases h
theorem ofIdx_get {us : List Nat} {k u : Nat} (h : us[k / 64]? = some u) : ofIdx us 0 k = some (u * 64 + k % 64) := by
  unfold ofIdx
  rw [if_neg (by omega), Nat.sub_zero, h]

theorem backIdx_ok {all names : List Nat} (hn : names.Nodup) (hl : all.length ≤ names.length) : RenOK (backIdx all names) all where
  dom k := by
    rw [(toIdx_ok all).dom k]
    constructor
    · rintro ⟨c, hc⟩
      obtain ⟨i, h1, h2, h3, h4⟩ := toIdx_some hc
      have : names[c / 64]? = some (names[c / 64]'(by omega)) := List.getElem?_eq_getElem (by omega)
      exact ⟨_, by unfold backIdx; rw [hc]; exact ofIdx_get this⟩
    · rintro ⟨c, hc⟩
      unfold backIdx at hc
      split at hc
      · rename_i k' hk; exact ⟨k', hk⟩
      · cases hc
  inj k j c h1 h2 := by
    unfold backIdx at h1 h2
    split at h1
    · rename_i k' hk
      split at h2
      · rename_i j' hj
        obtain ⟨e1, e2⟩ := ofIdx_some h1
        obtain ⟨e3, e4⟩ := ofIdx_some h2
        have : k' / 64 = j' / 64 := by
          have l1 := (List.getElem?_eq_some_iff.1 e1)
          have l2 := (List.getElem?_eq_some_iff.1 e3)
          obtain ⟨q1, q2⟩ := l1
          obtain ⟨q3, q4⟩ := l2
          exact (List.getElem_inj hn).1 (q2.trans q4.symm)
        have hkj : k' = j' := by omega
        subst hkj
        exact (toIdx_ok all).inj _ _ _ hk hj
      · cases h2
    · cases h1

theorem backIdx_some {all names : List Nat} {k c : Nat} (h : backIdx all names k = some c) : c / 64 ∈ names := by
  unfold backIdx at h
  split at h
  · exact List.mem_of_getElem? (ofIdx_some h).1
  · cases h

/-- what was lent gets its own name again -/
theorem back_toIdx {us all names : List Nat} (hp : all.take us.length = List.range us.length) (hnm : ∀ i, i < us.length → names[i]? = us[i]?) {k k' : Nat} (h : toIdx us 0 k = some k') : backIdx all names k' = some k := by
  obtain ⟨i, h1, h2, h3, h4⟩ := toIdx_some h
  have hget : ∀ j, j < us.length → all[j]? = some j := by
    intro j hj
    have : (all.take us.length)[j]? = some j := by rw [hp]; exact List.getElem?_range hj
    rw [List.getElem?_take, if_pos hj] at this
    exact this
  have hall : i < all.length := (List.getElem?_eq_some_iff.1 (hget i h4)).1
  have hti : toIdx all 0 k' = some k' := by
    unfold toIdx
    have : all.idxOf? (k' / 64) = some i := by
      rw [h2]
      refine List.idxOf?_eq_some_iff.2 ⟨hall, ?_, fun j hj he => ?_⟩
      · exact (List.getElem?_eq_some_iff.1 (hget i h4)).2
      · have := (List.getElem?_eq_some_iff.1 (hget j (by omega))).2
        omega
    rw [this]
    simp only [Nat.zero_add]
    congr 1
    omega
  unfold backIdx
  rw [hti]
  simp only
  have hn : names[k' / 64]? = some (k / 64) := by rw [h2, hnm i h4]; exact h1
  rw [ofIdx_get hn]
  congr 1
  omega

theorem addU_nodup : ∀ (ks us : List Nat), us.Nodup → (addU us ks).Nodup
  | [], us, h => h
  | k :: ks, us, h => by
    simp only [addU]
    split
    · exact addU_nodup ks us h
    · rename_i hc
      refine addU_nodup ks _ ?_
      rw [List.nodup_append]
      refine ⟨h, by simp, fun a ha b hb => ?_⟩
      simp at hb
      subst hb
      rintro rfl
      exact hc (List.contains_iff_mem.2 ha)
theorem reachU_nodup (os : OS) : ∀ (n i : Nat) (us : List Nat), us.Nodup → (reachU os n i us).Nodup
  | 0, i, us, h => h
  | n + 1, i, us, h => by
    simp only [reachU]
    split
    · exact reachU_nodup os n (i + 1) _ (addU_nodup _ _ h)
    · exact h
theorem countU_mem : ∀ (n b x : Nat), x ∈ countU b n → b ≤ x
  | 0, b, x, h => by simp [countU] at h
  | n + 1, b, x, h => by
    simp only [countU, List.mem_cons] at h
    rcases h with rfl | h
    · exact Nat.le_refl _
    · have := countU_mem n (b + 1) x h; omega
theorem countU_nodup : ∀ (n b : Nat), (countU b n).Nodup
  | 0, b => by simp [countU]
  | n + 1, b => by
    simp only [countU, List.nodup_cons]
    exact ⟨fun h => by have := countU_mem n (b + 1) b h; omega, countU_nodup n (b + 1)⟩
theorem countU_len : ∀ (n b : Nat), (countU b n).length = n
  | 0, b => rfl
  | n + 1, b => by simp [countU, countU_len n]
theorem maxL_ge : ∀ {us : List Nat} {u : Nat}, u ∈ us → u ≤ maxL us
  | [], u, h => by simp at h
  | x :: us, u, h => by
    simp only [maxL]
    rcases List.mem_cons.1 h with rfl | h
    · exact Nat.le_max_left _ _
    · exact Nat.le_trans (maxL_ge h) (Nat.le_max_right _ _)

/-- what a value stands for: behind a call that was lent some things -/
theorem carry {f h : Nat → Option Nat} {us : List Nat} (F : RenOK f us) (T1 : Tr f w g os w gc os0) (hW : ∀ v c, AVR w gc os0 v c → AVR w' gc1 os1 v c) (T3 : Tr h w' gc1 os1 w' g' os') (hfh : ∀ k k', f k = some k' → h k' = some k)
    (hI : ∀ b o, g.I b o → g'.I b o ∧ w'.cell? ⟨b, o, none⟩ = w.cell? ⟨b, o, none⟩)
    (hun : ∀ k o, us.contains (k / 64) = false → getObj os k = some o → getObj os' k = some o ∧ g'.bk (.obj k) = g.bk (.obj k) ∧ ∀ b, g.bk (.obj k) = some b → w'.heap[b]? = w.heap[b]?) {v : AV} {c : Value} (hv : AVR w g os v c) : AVR w' g' os' v c := by
  have lent : ∀ {v v' : AV} {c : Value}, AVR w g os v c → ren f v = some v' → ren h v' = some v → AVR w' g' os' v c := fun h1 h2 h3 => (hW _ _ (h1.tr T1 _ h2)).tr T3 _ h3
  have pick : ∀ k, (∃ k', f k = some k' ∧ h k' = some k) ∨ us.contains (k / 64) = false := by
    intro k
    cases hc : us.contains (k / 64) with
    | false => exact .inr rfl
    | true =>
      obtain ⟨k', hk⟩ := (F.dom k).1 hc
      exact .inl ⟨k', hk, hfh _ _ hk⟩
  induction hv with
  | p hp => exact .p (hp.mono hI)
  | undef => exact .undef
  | nilf => exact .nilf
  | elem vs h1 hc h2 hv => exact .elem vs (fun j y hy => (hI _ _ (h1 j y hy)).1) (fun j y hy => by rw [(hI _ _ (h1 j y hy)).2]; exact hc j y hy) h2 (fun j y hy => (hv j y hy).mono hI)
  | @ptr k off b ho hb =>
    rcases pick k with ⟨k', e1, e2⟩ | hc
    · exact lent (.ptr ho hb) (v' := .ptr k' off) (by simp only [ren]; rw [e1]) (by simp only [ren]; rw [e2])
    · rcases ho with ⟨cs, ho⟩ | ⟨s, n, ho⟩
      · obtain ⟨q1, q2, _⟩ := hun k _ hc ho
        exact .ptr (.inl ⟨_, q1⟩) (q2.trans hb)
      · obtain ⟨q1, q2, _⟩ := hun k _ hc ho
        exact .ptr (.inr ⟨_, _, q1⟩) (q2.trans hb)
  | @mp k b es ho hb =>
    rcases pick k with ⟨k', e1, e2⟩ | hc
    · exact lent (.mp ho hb) (v' := .mp k') (by simp only [ren]; rw [e1]) (by simp only [ren]; rw [e2])
    · obtain ⟨q1, q2, _⟩ := hun k _ hc ho
      exact .mp q1 (q2.trans hb)
  | @eptr k i off n sz lo xs sh v ho hi hn h1 hv =>
    rcases pick k with ⟨k', e1, e2⟩ | hc
    · exact lent (.eptr ho hi hn h1 hv) (v' := .eptr k' i off n) (by simp only [ren]; rw [e1]) (by simp only [ren]; rw [e2])
    · obtain ⟨q1, q2, _⟩ := hun k _ hc ho
      exact .eptr q1 hi hn h1 fun e => by rw [q2]; exact hv e
  | @row k off len sz lo cap xs sh a ho hl hcap hcur hc' =>
    rcases pick k with ⟨k', e1, e2⟩ | hc
    · exact lent (.row ho hl hcap hcur hc') (v' := .row k' off len) (by simp only [ren]; rw [e1]) (by simp only [ren]; rw [e2])
    · obtain ⟨q1, q2, q3⟩ := hun k _ hc ho
      refine .row q1 hl hcap (fun e1 e2 => ?_) ?_
      · rcases hcur e1 e2 with ⟨h1, h2⟩ | ⟨bb, vs, el, fr, h1, h2, h3, h4⟩
        · exact .inl ⟨q2.trans h1, h2⟩
        · exact .inr ⟨bb, vs, el, fr, q2.trans h1, h2, (q3 bb h1).trans h3, h4⟩
      · rcases hc' with h1 | h1 | ⟨b, h1, h2⟩ | h1
        · exact .inl h1
        · exact .inr (.inl h1)
        · exact .inr (.inr (.inl ⟨b, q2.trans h1, h2⟩))
        · exact .inr (.inr (.inr (h1.mono hI)))
  | fn hs _ ih => exact .fn hs ih
  | ifc _ ih => exact .ifc ih
  | agg hs h1 _ ih => exact .agg hs h1 ih
  | tup hs _ ih => exact .tup hs ih
end
end Go.Am
namespace Go.Am
variable [Env]
section
variable [Base]
variable {P : Program} {H : Hints} {B : Nat} {w w' w0 : World} {g g' g'' g0 g1 gc gc' gc1 : Gh} {os os' os'' os1 os0 osL os2 : OS} {s : St} {a : Act}

/-- the caller's look behind the call -/
noncomputable def backG (h : Nat → Option Nat) (us : List Nat) (os : OS) (g gc1 : Gh) : Gh :=
  { bk := fun y => match y with
      | .slot t => g.bk (.slot t)
      | .obj K => if us.contains (K / 64) = true ∨ maxU os < K / 64 then lentObj h gc1.bk K else g.bk (.obj K)
    I := gc1.I
    W := g.W }

theorem lentObj_some {f : Nat → Option Nat} (bk : Loc → Option Nat) {K b : Nat} (h : lentObj f bk K = some b) : ∃ k, f k = some K ∧ bk (.obj k) = some b := by
  obtain ⟨k, k', e1, e2, e3⟩ := lentBk_some (f := f) bk (y := .obj K) h
  cases e1
  exact ⟨k, e2, e3⟩

theorem back_rel {f h : Nat → Option Nat} {us all : List Nat} (R : Rel B w g s a) (F : RenOK f us) (hl : lend f us s.os = some os0) (FC : Fr w (lentG f w g os0) w' gc') (RC : RelO B w' gc' os') (F1 : Frz B w' gc' os' gc1 os1)
    (FH : RenOK h all) (hL : lend h all os1 = some osL) (hfh : ∀ k k', f k = some k' → h k' = some k) (himg : ∀ k K, h k = some K → us.contains (K / 64) = true ∨ maxU s.os < K / 64) :
    Rel B w' (backG h us s.os g gc1) { s with os := osL ++ dropU us s.os } a ∧ Fr w g w' (backG h us s.os g gc1) ∧ Tr h w' gc1 os1 w' (backG h us s.os g gc1) (osL ++ dropU us s.os) := by
  obtain ⟨_, T1, _⟩ := lend_rel F R.mem hl
  obtain ⟨i1, i2⟩ := lend_get FH hL
  have hlt0 : ∀ x b, g.bk x = some b → b < w.heap.size := fun x b hb => (R.mem.lt x b hb).2
  have gcg : ∀ x b, (lentG f w g os0).bk x = some b → ∃ k, us.contains (k / 64) = true ∧ g.bk (.obj k) = some b := fun x b hb => by
    obtain ⟨k, k', rfl, e2, e3⟩ := lentBk_some (f := f) g.bk (y := x) hb
    exact ⟨k, (F.dom k).2 ⟨_, e2⟩, e3⟩
  have bkImg : ∀ {k K}, h k = some K → (backG h us s.os g gc1).bk (.obj K) = gc1.bk (.obj k) := fun {k K} hk => by
    show (if _ then _ else _) = _
    rw [if_pos (himg k K hk)]
    exact lentBk_eq FH gc1.bk hk
  have bkUn : ∀ {K o}, us.contains (K / 64) = false → getObj s.os K = some o → (backG h us s.os g gc1).bk (.obj K) = g.bk (.obj K) := fun {K o} hc ho => by
    show (if _ then _ else _) = _
    rw [if_neg]
    rintro (h1 | h1)
    · rw [hc] at h1; cases h1
    · have := maxU_ge ho; omega
  have getL : ∀ {K o}, us.contains (K / 64) = false → getObj s.os K = some o → getObj (osL ++ dropU us s.os) K = some o := fun {K o} hc ho => by
    rw [app_get]
    cases hg : getObj osL K with
    | some x =>
      obtain ⟨k, _, _, e2, _⟩ := i2 K x hg
      rcases himg k K e2 with h1 | h1
      · rw [hc] at h1; cases h1
      · have := maxU_ge ho; omega
    | none =>
      simp only
      rw [dropU_get, hc]
      exact ho
  have heapUn : ∀ b, b < w.heap.size → (∀ k, us.contains (k / 64) = true → g.bk (.obj k) ≠ some b) → w'.heap[b]? = w.heap[b]? := fun b hb hn => FC.rest b hb fun x hx => by
    obtain ⟨k, e1, e2⟩ := gcg x b hx
    exact hn k e1 e2
  have IUn : ∀ b o, gc1.I b o → b < w.heap.size → g.I b o ∨ ∃ k, us.contains (k / 64) = true ∧ g.bk (.obj k) = some b := fun b o hi hb => by
    rcases F1.inew b o hi with h1 | ⟨k, hk⟩
    · rcases FC.inew b o h1 hb with h2 | ⟨y, hy⟩
      · exact .inl h2
      · exact .inr (gcg y b hy)
    · obtain ⟨y, hy⟩ := FC.own _ b hk hb
      exact .inr (gcg y b hy)
  have hI : ∀ b o, g.I b o → gc1.I b o ∧ w'.cell? ⟨b, o, none⟩ = w.cell? ⟨b, o, none⟩ := fun b o hi => ⟨F1.imm b o (FC.imm b o hi).1, (FC.imm b o hi).2⟩
  have T3 : Tr h w' gc1 os1 w' (backG h us s.os g gc1) (osL ++ dropU us s.os) := by
    refine ⟨fun b o hi => ⟨hi, rfl⟩, fun k K o ho hk => ?_⟩
    obtain ⟨K', o', e1, e2, e3⟩ := i1 k o ho ((FH.dom k).2 ⟨K, hk⟩)
    rw [hk] at e1; cases e1
    refine ⟨o', by rw [app_get, e3], ?_⟩
    rw [bkImg hk]
    exact OEv.ren e2
  have hW : ∀ v c, AVR w (lentG f w g os0) os0 v c → AVR w' gc1 os1 v c := fun v c hv => (RC.watch v c (FC.watch v c (lentG_W.2 hv))).ev F1.tr
  have hun : ∀ k o, us.contains (k / 64) = false → getObj s.os k = some o → getObj (osL ++ dropU us s.os) k = some o ∧ (backG h us s.os g gc1).bk (.obj k) = g.bk (.obj k) ∧ ∀ b, g.bk (.obj k) = some b → w'.heap[b]? = w.heap[b]? := fun k o hc ho =>
    ⟨getL hc ho, bkUn hc ho, fun b hb => heapUn b (hlt0 _ b hb) fun j hj hjb => by
      have := R.mem.inj _ _ b hb hjb
      cases this
      rw [hc] at hj; cases hj⟩
  have tv : ∀ {v : AV} {c : Value}, AVR w g s.os v c → AVR w' (backG h us s.os g gc1) (osL ++ dropU us s.os) v c := fun hv => carry F T1 hW T3 hfh hI hun hv
  -- who owns a block
  have own2 : ∀ x b, (backG h us s.os g gc1).bk x = some b → (∃ t, x = .slot t ∧ g.bk x = some b) ∨ (∃ k K, x = .obj K ∧ h k = some K ∧ gc1.bk (.obj k) = some b) ∨ ∃ K, x = .obj K ∧ us.contains (K / 64) = false ∧ g.bk x = some b := by
    intro x b hx
    cases x with
    | slot t => exact .inl ⟨t, rfl, hx⟩
    | obj K =>
      have hx' : (if us.contains (K / 64) = true ∨ maxU s.os < K / 64 then lentObj h gc1.bk K else g.bk (.obj K)) = some b := hx
      split at hx'
      · obtain ⟨k, e1, e2⟩ := lentObj_some gc1.bk hx'
        exact .inr (.inl ⟨k, K, rfl, e1, e2⟩)
      · rename_i hn
        refine .inr (.inr ⟨K, rfl, ?_, hx'⟩)
        cases hc : us.contains (K / 64) with
        | false => rfl
        | true => exact absurd (.inl hc) hn
  have gc1own : ∀ k b, gc1.bk (.obj k) = some b → w.heap.size ≤ b ∨ ∃ j, us.contains (j / 64) = true ∧ g.bk (.obj j) = some b := fun k b hb => by
    rcases Nat.lt_or_ge b w.heap.size with h1 | h1
    · obtain ⟨y, hy⟩ := FC.own _ b (by rw [← F1.bk]; exact hb) h1
      exact .inr (gcg y b hy)
    · exact .inl h1
  have RO : RelO B w' (backG h us s.os g gc1) (osL ++ dropU us s.os) := by
    refine ⟨fun K o ho => ?_, fun K b hb => ?_, fun x y b hx hy => ?_, fun x b hx => ?_, fun b o ho => F1.rel.ilt b o ho, fun v c hv => tv (R.mem.watch v c hv), F1.rel.base⟩
    · rw [app_get] at ho
      cases hg : getObj osL K with
      | some x =>
        rw [hg] at ho
        have hxo : x = o := Option.some.inj ho
        rw [hxo] at hg
        obtain ⟨k, o1, e1, e2, e3⟩ := i2 K o hg
        exact (F1.rel.obj k o1 e1).ren e3 (fun v v' c hr hv => hv.tr T3 v' hr) (fun b o hi => ⟨hi, rfl⟩) (bkImg e2) (fun b _ => ⟨rfl, fun _ h => h⟩)
      | none =>
        rw [hg] at ho
        simp only at ho
        rw [dropU_get] at ho
        split at ho
        · cases ho
        · rename_i hc
          have hc' : us.contains (K / 64) = false := by simpa using hc
          refine (R.mem.obj K o ho).ren (f := some) ?_ (fun v v' c hr hv => ?_) hI (bkUn hc' ho) (fun b hb => ⟨(hun K o hc' ho).2.2 b hb, fun o' ho' => ?_⟩)
          · cases o with
            | cells cs => simp only [renO]; rw [ren_some.go]
            | map es =>
              simp only [renO]
              have : ∀ es : List (PV × AV), renEs some es = some es := by
                intro es
                induction es with
                | nil => rfl
                | cons e es ih => obtain ⟨k, v⟩ := e; simp only [renEs]; rw [ren_some, ih]
              rw [this]
            | _ => rfl
          · rw [ren_some] at hr; cases hr; exact tv hv
          · rcases IUn b o' ho' (hlt0 _ b hb) with h1 | ⟨j, h1, h2⟩
            · exact h1
            · have := R.mem.inj _ _ b hb h2
              cases this
              rw [hc'] at h1; cases h1
    · rcases own2 _ b hb with ⟨t, e, _⟩ | ⟨k, K', e, e1, e2⟩ | ⟨K', e, e1, e2⟩
      · cases e
      · cases e
        obtain ⟨o, ho⟩ := F1.rel.dom k b e2
        obtain ⟨K', o', q1, _, q3⟩ := i1 k o ho ((FH.dom k).2 ⟨K, e1⟩)
        rw [e1] at q1; cases q1
        exact ⟨o', by rw [app_get, q3]⟩
      · cases e
        obtain ⟨o, ho⟩ := R.mem.dom K b e2
        exact ⟨o, getL e1 ho⟩
    · have sep : ∀ {k : Nat} {z : Loc}, gc1.bk (.obj k) = some b → g.bk z = some b → (∀ j, us.contains (j / 64) = true → z ≠ .obj j) → False := by
        intro k z h1 h2 h3
        rcases gc1own k b h1 with h4 | ⟨j, h4, h5⟩
        · have := hlt0 z b h2; omega
        · exact h3 j h4 (R.mem.inj _ _ b h2 h5)
      rcases own2 x b hx with ⟨t, rfl, e1⟩ | ⟨k, K, rfl, e1, e2⟩ | ⟨K, rfl, e1, e2⟩
      · rcases own2 y b hy with ⟨t', rfl, q1⟩ | ⟨k', K', rfl, q1, q2⟩ | ⟨K', rfl, q1, q2⟩
        · exact R.mem.inj _ _ b e1 q1
        · exact (sep q2 e1 fun j _ h => by cases h).elim
        · exact R.mem.inj _ _ b e1 q2
      · rcases own2 y b hy with ⟨t', rfl, q1⟩ | ⟨k', K', rfl, q1, q2⟩ | ⟨K', rfl, q1, q2⟩
        · exact (sep e2 q1 fun j _ h => by cases h).elim
        · have := F1.rel.inj _ _ b e2 q2
          cases this
          rw [e1] at q1; cases q1; rfl
        · exact (sep e2 q2 fun j hj h => by cases h; rw [q1] at hj; cases hj).elim
      · rcases own2 y b hy with ⟨t', rfl, q1⟩ | ⟨k', K', rfl, q1, q2⟩ | ⟨K', rfl, q1, q2⟩
        · exact R.mem.inj _ _ b e2 q1
        · exact (sep q2 e2 fun j hj h => by cases h; rw [e1] at hj; cases hj).elim
        · exact R.mem.inj _ _ b e2 q2
    · rcases own2 x b hx with ⟨t, rfl, e1⟩ | ⟨k, K, rfl, e1, e2⟩ | ⟨K, rfl, e1, e2⟩
      · exact ⟨(R.mem.lt _ b e1).1, Nat.lt_of_lt_of_le (hlt0 _ b e1) FC.size⟩
      · exact F1.rel.lt _ b e2
      · exact ⟨(R.mem.lt _ b e2).1, Nat.lt_of_lt_of_le (hlt0 _ b e2) FC.size⟩
  have slotUn : ∀ t b, g.bk (.slot t) = some b → w'.heap[b]? = w.heap[b]? ∧ ∀ o, gc1.I b o → g.I b o := by
    intro t b hb
    refine ⟨heapUn b (hlt0 _ b hb) fun j _ hjb => ?_, fun o ho => ?_⟩
    · have := R.mem.inj _ _ b hb hjb
      cases this
    · rcases IUn b o ho (hlt0 _ b hb) with h1 | ⟨j, _, h2⟩
      · exact h1
      · have := R.mem.inj _ _ b hb h2
        cases this
  refine ⟨⟨RO, R.size, fun t v hv => ?_, R.dlen, fun j x d h1 h2 => ?_⟩, ⟨FC.size, FC.tape, FC.os, FC.output, hI, fun b hb hn => heapUn b hb fun k _ => hn _, fun x b hx hb => ?_, fun b o ho hb => ?_, fun _ _ h => h⟩, T3⟩
  · have hr := R.slots t v hv
    cases v with
    | fresh sz xs =>
      rcases (hr : FR w g t sz xs _) with h | ⟨b, vs, el, fr, cap, h1, h2, h3, h4, h5, h6, h7, h8⟩
      · exact .inl h
      · obtain ⟨e2, e3⟩ := slotUn t b h1
        exact .inr ⟨b, vs, el, fr, cap, h1, h2, e2.trans h3, h4, h5, h6, h7.mono hI, fun o ho => h8 o (e3 o ho)⟩
    | uniq sz xs =>
      rcases (hr : UR w g t sz xs _) with h | ⟨b, vs, el, fr, cap, h1, h2, h3, h4, h5, h6, h7, h8⟩
      · exact .inl h
      · obtain ⟨e2, e3⟩ := slotUn t b h1
        exact .inr ⟨b, vs, el, fr, cap, h1, h2, e2.trans h3, h4, h5, h6, h7.mono hI, fun o ho => h8 o (e3 o ho)⟩
    | _ => exact tv hr
  · obtain ⟨f, cap, vs, e1, e2, e3, e4⟩ := R.dfr j x d h1 h2
    exact ⟨f, cap, vs, e1, e2, ⟨e3.1, fun j c v hc hv => tv (e3.2 j c v hc hv)⟩, ⟨e4.1, fun j c v hc hv => tv (e4.2 j c v hc hv)⟩⟩
  · rcases own2 x b hx with ⟨t, rfl, e1⟩ | ⟨k, K, rfl, e1, e2⟩ | ⟨K, rfl, e1, e2⟩
    · exact ⟨_, e1⟩
    · rcases gc1own k b e2 with h1 | ⟨j, _, h2⟩
      · omega
      · exact ⟨_, h2⟩
    · exact ⟨_, e2⟩
  · rcases IUn b o ho hb with h1 | ⟨j, _, h2⟩
    · exact .inl h1
    · exact .inr ⟨_, h2⟩
end
end Go.Am
namespace Go.Am
variable [Env]
section
variable [Base]
variable {P : Program} {H : Hints} {B : Nat} {w w' w0 : World} {g g' g'' g0 g1 gc gc' gc1 : Gh} {os os' os'' os1 os0 osL os2 : OS} {s : St} {a : Act}
variable {o : Oper} {K : Act → World → Prop} {Q : Exit → Act → World → Prop} {cx : Cx} {r : R1} {call : CallFn}

/-- what a call that was lent things hands back -/
structure OutS (B : Nat) (w : World) (g : Gh) (os : OS) (ow : Loc → Prop) (v : AV) (c : Value) : Prop where
  avr : AVR w g os (cp v) c
  fresh : ∀ sz xs, v = .fresh sz xs → Own B w g (fun _ => True) (fun b => ∃ y, ow y ∧ g.bk y = some b) sz xs true c
  uniq : ∀ sz xs, v = .uniq sz xs → Own B w g (fun _ => True) (fun b => ∃ y, ow y ∧ g.bk y = some b) sz xs false c

theorem OutS.nf {ow : Loc → Prop} {v : AV} {c : Value} (h : AVR w g os v c) (hn : Am.nf v = true) : OutS B w g os ow v c :=
  ⟨by have := h.cp; exact this, fun sz xs he => (by rw [he] at hn; cases hn), fun sz xs he => (by rw [he] at hn; cases hn)⟩

theorem OutS.of_out {ow : Loc → Prop} {v : AV} {c : Value} (h : OutR B w g ow v c) : OutS B w g os ow v c :=
  ⟨h.pure g os fun _ _ h => h, h.fresh, h.uniq⟩

theorem outB_rel (R : RelO B w g os) {nb : Nat} {v v2 : AV} {c : Value} {t : Nat} (h : outB nb os v = some (v2, os')) (hv : SVR w g os t v c) : ∃ g', Frz B w g os g' os' ∧ OutS B w g' os' (owOf t v) v2 c := by
  unfold outB at h
  split at h
  · rename_i k off len
    split at h
    · cases h
      exact ⟨g, Frz.refl R, OutS.nf hv rfl⟩
    · obtain ⟨g', F, ho⟩ := out1_rel R h hv
      exact ⟨g', F, OutS.of_out ho⟩
  · rename_i n1
    cases h
    cases hn : Am.nf v with
    | true => exact ⟨g, Frz.refl R, OutS.nf (hv.avr hn) hn⟩
    | false =>
      have ho : out1 os v = some (v, os) := by cases v <;> first | rfl | cases hn
      obtain ⟨g', F, ho⟩ := out1_rel R ho hv
      exact ⟨g', F, OutS.of_out ho⟩

theorem outBs_rel {B : Nat} {w : World} {nb : Nat} {g0 : Gh} {os0 : OS} : ∀ {l l2 : List AV} {g : Gh} {os os' : OS} (_ : Frz B w g0 os0 g os) {vs : List Value}, outBs nb os l = some (l2, os') → l.length = vs.length → (∀ (j : Nat) (v : AV) (u : Value), l[j]? = some v → vs[j]? = some u → AVR w g0 os0 v u) →
    ∃ g', Frz B w g os g' os' ∧ l2.length = vs.length ∧ ∀ (j : Nat) (v : AV) (u : Value), l2[j]? = some v → vs[j]? = some u → AVR w g' os' v u
  | [], l2, g, os, os', F0, [], h, hl, hr => by
    simp only [outBs] at h; cases h
    exact ⟨g, Frz.refl F0.rel, rfl, fun j v u h => by simp at h⟩
  | x :: xs, l2, g, os, os', F0, u :: vs, h, hl, hr => by
    simp only [outBs] at h
    split at h
    · rename_i y os1 hy
      split at h
      · rename_i ys os2 hys
        cases h
        obtain ⟨g1, F1, p1⟩ := outB_rel F0.rel hy (.of 0 ((hr 0 x u rfl rfl).ev F0.tr))
        obtain ⟨g2, F2, l2, p2⟩ := outBs_rel (F0.trans F1) hys (by simpa using hl) (fun j v u hv hu => hr (j + 1) v u (by simpa using hv) (by simpa using hu))
        refine ⟨g2, F1.trans F2, by simp [l2], fun j v z hv hz => ?_⟩
        cases j with
        | zero => simp at hv hz; subst hv; subst hz; exact p1.avr.ev F2.tr
        | succ j => exact p2 j v z (by simpa using hv) (by simpa using hz)
      · cases h
    · cases h
  | [], _, _, _, _, _, _ :: _, _, hl, _ => by simp at hl
  | _ :: _, _, _, _, _, _, [], _, hl, _ => by simp at hl

theorem outW_rel (R : RelO B w g os) {nb : Nat} {v v2 : AV} {c : Value} {t : Nat} (h : outW nb os v = some (v2, os')) (hv : SVR w g os t v c) : ∃ g', Frz B w g os g' os' ∧ OutS B w g' os' (owOf t v) v2 c := by
  unfold outW at h
  split at h
  · rename_i l
    split at h
    · rename_i l2 os1 hl
      cases h
      have hv' : AVR w g os (.tup l) c := hv
      cases hv' with
      | tup hs he =>
        rename_i us
        obtain ⟨g', F, l3, p3⟩ := outBs_rel (Frz.refl R) (vs := us.toList) hl (by simpa using hs.symm) (fun j v u hv hu => he j v u hv (by simpa using hu))
        exact ⟨g', F, OutS.nf (.tup (by rw [l3]; simp) fun j v u hv hu => p3 j v u hv (by simpa using hu)) rfl⟩
    · cases h
  · rename_i l
    split at h
    · rename_i l2 os1 hl
      cases h
      have hv' : AVR w g os (.agg l) c := hv
      cases hv' with
      | agg hs h1 he =>
        rename_i us
        obtain ⟨g', F, l3, p3⟩ := outBs_rel (Frz.refl R) (vs := us.toList) hl (by simpa using hs.symm) (fun j v u hv hu => he j v u hv (by simpa using hu))
        exact ⟨g', F, OutS.nf (.agg (by rw [l3]; simp) h1 fun j v u hv hu => p3 j v u hv (by simpa using hu)) rfl⟩
    · cases h
  · exact outB_rel R h hv

/-- the caller's state behind a call that was lent things -/
theorem back_put (R : Rel B w g s a) {us : List Nat} {u : Nat} {v v2 : AV} {c : Value} {t : Nat} (hnd : us.Nodup) (hl : lend (toIdx us 0) us s.os = some os0) (FC : Fr w (lentG (toIdx us 0) w g os0) w' gc') (RC : RelO B w' gc' os') (hv : SVR w' gc' os' t v c)
    (h : back s.os us u v os' = some (v2, os2)) : (∃ g2, Rel B w' g2 { s with os := os2 } a ∧ Fr w g w' g2 ∧ (nf v2 = true → AVR w' g2 os2 v2 c)) ∧ ∀ d, ∃ g2, Rel B w' g2 (put { s with os := os2 } d v2) (a.put d c) ∧ Fr w g w' g2 := by
  unfold back at h
  split at h
  · rename_i v1 os1 hout
    simp only at h
    generalize hall : reachU os1 (os1.length + us.length + 1) 0 (addU (List.range us.length) (refs v1)) = all at h
    generalize hnm : us ++ freeUs s.os us u (all.length - us.length) = names at h
    split at h
    · rename_i hpre
      simp only [Bool.and_eq_true, beq_iff_eq, Bool.or_eq_true, Bool.not_eq_true'] at hpre
      obtain ⟨hpre', hown⟩ := hpre
      split at h
      · rename_i v3 osL hren hL
        simp only [Option.some.injEq, Prod.mk.injEq] at h
        obtain ⟨rfl, rfl⟩ := h
        obtain ⟨gc1, F1, ho⟩ := outW_rel RC hout hv
        have hle : us.length ≤ all.length := by
          have := congrArg List.length hpre'
          simp at this; omega
        have hbase : ∀ x ∈ freeUs s.os us u (all.length - us.length), maxU s.os < x ∧ maxL us < x := by
          intro x hx
          have := countU_mem _ _ x hx
          have h1 := Nat.le_max_right u (max (maxU s.os) (maxL us) + 1)
          have h2 := Nat.le_max_left (maxU s.os) (maxL us)
          have h3 := Nat.le_max_right (maxU s.os) (maxL us)
          omega
        have hnames : names.Nodup := by
          rw [← hnm, List.nodup_append]
          refine ⟨hnd, countU_nodup _ _, fun x hx y hy => ?_⟩
          rintro rfl
          have := (hbase x hy).2
          have := maxL_ge hx
          omega
        have hlen : all.length ≤ names.length := by
          rw [← hnm, List.length_append]
          unfold freeUs
          rw [countU_len]; omega
        have FH := backIdx_ok hnames hlen
        have hfh : ∀ k k', toIdx us 0 k = some k' → backIdx all names k' = some k := fun k k' hk => back_toIdx hpre' (fun i hi => by rw [← hnm, List.getElem?_append_left hi]) hk
        have himg : ∀ k K, backIdx all names k = some K → us.contains (K / 64) = true ∨ maxU s.os < K / 64 := fun k K hk => by
          have := backIdx_some hk
          rw [← hnm, List.mem_append] at this
          rcases this with h1 | h1
          · exact .inl (List.contains_iff_mem.2 h1)
          · exact .inr (hbase _ h1).1
        obtain ⟨R2, F2, T3⟩ := back_rel R (toIdx_ok us) hl FC RC F1 FH hL hfh himg
        have hnfv : nf v1 = true → AVR w' (backG (backIdx all names) us s.os g gc1) (osL ++ dropU us s.os) v3 c := fun hn => by
          have h1 := ho.avr
          have : cp v1 = v1 := by cases v1 <;> first | rfl | cases hn
          rw [this] at h1
          exact h1.tr T3 _ hren
        have hnf3 : nf v3 = true → nf v1 = true := by
          intro h3
          cases v1 <;> first | rfl | (simp only [ren] at hren; cases hren; cases h3)
        refine ⟨⟨_, R2, F2, fun h3 => hnfv (hnf3 h3)⟩, fun d => ?_⟩
        cases hn1 : nf v1 with
        | true => exact ⟨_, R2.put fun t _ => SVR.of t (hnfv hn1), F2⟩
        | false =>
          -- a block of its own: no one else's
          have own : ∀ {sz : Nat} {xs : List (List PV)} {sh : Bool}, Own B w' gc1 (fun _ => True) (fun b => ∃ y, owOf t v y ∧ gc1.bk y = some b) sz xs sh c → Own B w' (backG (backIdx all names) us s.os g gc1) (fun _ => False) (fun b => b < w.heap.size → ∃ y, g.bk y = some b) sz xs sh c := by
            intro sz xs sh hh
            rcases hh with hh | ⟨b, vs, el, fr, cap, q0, q1, q2, q3, q4, q5, q6, q7, q8, q9, ⟨y, hy1, hy2⟩⟩
            · exact .inl hh
            · have gcg : ∀ x b, (lentG (toIdx us 0) w g os0).bk x = some b → ∃ k, us.contains (k / 64) = true ∧ g.bk (.obj k) = some b := fun x b hb => by
                obtain ⟨k, k', rfl, e2, e3⟩ := lentBk_some (f := toIdx us 0) g.bk (y := x) hb
                exact ⟨k, ((toIdx_ok us).dom k).2 ⟨_, e2⟩, e3⟩
              have hold : b < w.heap.size → ∃ k, us.contains (k / 64) = true ∧ g.bk (.obj k) = some b := fun hb => by
                obtain ⟨z, hz⟩ := FC.own y b (by rw [← F1.bk]; exact hy2) hb
                exact gcg z b hz
              have hnot : ∀ k K, y = .obj k → backIdx all names k = some K → False := fun k K hyk hk => by
                have hc := (FH.dom k).2 ⟨K, hk⟩
                subst hyk
                rcases hown with h1 | h1
                · rw [hn1] at h1; cases h1
                · cases v with
                  | row k0 off len =>
                    have : k = k0 := by have h2 : Loc.obj k = Loc.obj k0 := hy1; simpa using h2
                    subst this
                    simp only [ownIn] at h1
                    rw [hc] at h1; cases h1
                  | _ => have h2 : Loc.obj k = Loc.slot t := hy1; cases h2
              refine .inr ⟨b, vs, el, fr, cap, q0, q1, q2, q3, q4, q5, q6, q7, q8, fun x hx => ?_, fun hb => ?_⟩
              · -- nobody has it
                have gsep : ∀ z, g.bk z = some b → ∃ k, us.contains (k / 64) = true ∧ z = .obj k := fun z hz => by
                  obtain ⟨k, e1, e2⟩ := hold (R.mem.lt z b hz).2
                  exact ⟨k, e1, R.mem.inj _ _ b hz e2⟩
                cases x with
                | slot t' =>
                  obtain ⟨k, _, e⟩ := gsep (.slot t') hx
                  cases e
                | obj K =>
                  have hx' : (if us.contains (K / 64) = true ∨ maxU s.os < K / 64 then lentObj (backIdx all names) gc1.bk K else g.bk (.obj K)) = some b := hx
                  split at hx'
                  · obtain ⟨k, e1, e2⟩ := lentObj_some gc1.bk hx'
                    exact hnot k K (F1.rel.inj _ _ b hy2 e2) e1
                  · rename_i hn
                    obtain ⟨k, e1, e⟩ := gsep (.obj K) hx'
                    cases e
                    exact hn (.inl e1)
              · obtain ⟨k, _, e2⟩ := hold hb
                exact ⟨_, e2⟩
          cases v1 with
          | fresh sz xs =>
            simp only [ren] at hren; cases hren
            exact fresh_put R2 F2 (own (ho.fresh sz xs rfl)) (fun b hb => hb)
          | uniq sz xs =>
            simp only [ren] at hren; cases hren
            exact uniq_put R2 F2 (own (ho.uniq sz xs rfl)) (fun b hb => hb)
          | _ => cases hn1
      · cases h
    · cases h
  · cases h
end
end Go.Am
namespace Go.Am
variable [Env]
section
variable [Base]
variable {P : Program} {H : Hints} {B : Nat} {w w' w0 : World} {g g' g'' g0 g1 gc gc' gc1 : Gh} {os os' os'' os1 os0 osL os2 : OS} {s : St} {a : Act}
variable {o : Oper} {K : Act → World → Prop} {Q : Exit → Act → World → Prop} {cx : Cx} {r : R1} {call : CallFn}

theorem refss_get : ∀ {cs : List AV} {k : Nat}, k ∈ refss cs → ∃ (j : Nat) (c : AV), cs[j]? = some c ∧ k ∈ refs c
  | [], k, h => by simp [refss] at h
  | x :: xs, k, h => by
    simp only [refss, List.mem_append] at h
    rcases h with h | h
    · exact ⟨0, x, rfl, h⟩
    · obtain ⟨j, c, h1, h2⟩ := refss_get h
      exact ⟨j + 1, c, by simpa using h1, h2⟩

/-- what a value leads to is there -/
theorem AVR.there {v : AV} {c : Value} (h : AVR w g os v c) : ∀ k ∈ refs v, ∃ o, getObj os k = some o := by
  induction h with
  | p hp => intro k hk; simp [refs] at hk
  | undef => intro k hk; simp [refs] at hk
  | nilf => intro k hk; simp [refs] at hk
  | elem => intro k hk; simp [refs] at hk
  | ptr ho hb =>
    intro k hk
    simp [refs] at hk; subst hk
    rcases ho with ⟨_, ho⟩ | ⟨_, _, ho⟩
    · exact ⟨_, ho⟩
    · exact ⟨_, ho⟩
  | mp ho hb => intro k hk; simp [refs] at hk; subst hk; exact ⟨_, ho⟩
  | eptr ho => intro k hk; simp [refs] at hk; subst hk; exact ⟨_, ho⟩
  | row ho => intro k hk; simp [refs] at hk; subst hk; exact ⟨_, ho⟩
  | ifc _ ih => intro k hk; simp only [refs] at hk; exact ih k hk
  | @fn f cap vs hs hv ih =>
    intro k hk
    simp only [refs] at hk
    obtain ⟨j, c, h1, h2⟩ := refss_get hk
    have hlt : j < vs.size := by rw [hs]; exact (List.getElem?_eq_some_iff.1 h1).1
    exact ih j c _ h1 (Array.getElem?_eq_getElem hlt) k h2
  | @agg cs vs hs h1' hv ih =>
    intro k hk
    simp only [refs] at hk
    obtain ⟨j, c, h1, h2⟩ := refss_get hk
    have hlt : j < vs.size := by rw [hs]; exact (List.getElem?_eq_some_iff.1 h1).1
    exact ih j c _ h1 (Array.getElem?_eq_getElem hlt) k h2
  | @tup cs vs hs hv ih =>
    intro k hk
    simp only [refs] at hk
    obtain ⟨j, c, h1, h2⟩ := refss_get hk
    have hlt : j < vs.size := by rw [hs]; exact (List.getElem?_eq_some_iff.1 h1).1
    exact ih j c _ h1 (Array.getElem?_eq_getElem hlt) k h2

/-- a call that is lent the things that its arguments lead to -/
theorem call1_wp (hB : B ≤ w.heap.size) (hC : CallOK P call) (R : Rel B w g s a) {c : Call} {f : FuncId} {args : List AV} {u : Nat} {res : Res} (hop : o.op = .call c) (hcal : calleeOf P s c = some (f, args)) {m : Nat} (hmode : H.mode f = m + 1)
    (h : modeCall H call u s.os f args = some res) (M : Meets B w g a K Q (fin s o.dst res)) : o.wp P a w K Q := by
  unfold modeCall at h
  rw [hmode] at h
  simp only at h
  generalize hus : reachU s.os (s.os.length + args.length + 1) 0 (addU [] (refss args)) = us at h
  have hnd : us.Nodup := by rw [← hus]; exact reachU_nodup _ _ _ _ (addU_nodup _ _ (by simp))
  split at h
  · rename_i args' os0 hren hl
    obtain ⟨RL, T1, _⟩ := lend_rel (toIdx_ok us) R.mem hl
    have key : ∀ rc, call f args' os0 us.length = some rc → ∃ vs, (execOp a.eval o).run P w = .ok (.enter f vs) w ∧ Calls P f vs w (Ends B w (lentG (toIdx us 0) w g os0) rc) := by
      intro rc hrc
      obtain ⟨hE, hcall⟩ := hC f args' os0 us.length rc hrc
      obtain ⟨vs, hex, hcps, hsv⟩ := exec_call R hop hcal hE
      have hwat : ∀ v c, (lentG (toIdx us 0) w g os0).W v c → ∀ k ∈ refs v, k / 64 < us.length := by
        intro v c hv k hk
        obtain ⟨o', ho⟩ := (lentG_W.1 hv).there k hk
        obtain ⟨k0, _, _, e2, _⟩ := (lend_get (toIdx_ok us) hl).2 k o' ho
        obtain ⟨i, _, e3, _, e4⟩ := toIdx_some e2
        omega
      refine ⟨vs, hex, hcall B w _ vs hB RL (fun _ => rfl) hwat ⟨?_, fun j v u hv hu => ?_⟩⟩
      · rw [hcps.1, (rens_get hren).1]
      · obtain ⟨c0, e1, e2⟩ := rens_get' hren j v hv
        exact (hcps.2 j c0 u e1 hu).tr T1 _ e2
    split at h
    · rename_i v os' hc
      split at h
      · rename_i v2 os2 hb
        cases h
        obtain ⟨vs, hex, hcalls⟩ := key _ hc
        refine wp_enter hex hcalls (fun c w' hE => ?_) (fun ch w' hE => hE.elim) (fun w' hE => hE.elim)
        obtain ⟨gc', RC, ⟨t, hv⟩, FC⟩ := hE
        obtain ⟨g2, R2, F2⟩ := (back_put R hnd hl FC RC hv hb).2 o.dst
        exact M _ _ g2 R2 F2
      · cases h
    · rename_i t v os' hc
      split at h
      · rename_i v2 os2 hb
        cases h
        obtain ⟨vs, hex, hcalls⟩ := key _ hc
        refine wp_enter hex hcalls (fun c w' hE => hE.elim) (fun ch w' hE => ?_) (fun w' hE => hE.elim)
        obtain ⟨gc', c, rfl, RC, hv, FC⟩ := hE
        obtain ⟨⟨g2, R2, F2, hnf⟩, _⟩ := back_put R hnd hl FC RC (SVR.of 0 hv) hb
        refine M c _ g2 R2 (hnf ?_) F2
        -- it is an interface's value still
        unfold back at hb
        split at hb
        · rename_i v1 os1 hout
          have h1 : v1 = .ifc t v := by
            unfold outW at hout
            simp only [outB] at hout
            cases hout; rfl
          subst h1
          simp only at hb
          split at hb
          · split at hb
            · rename_i v3 osL hr hL
              simp only [Option.some.injEq, Prod.mk.injEq] at hb
              obtain ⟨rfl, _⟩ := hb
              simp only [ren] at hr
              split at hr
              · cases hr; rfl
              · cases hr
            · cases hb
          · cases hb
        · cases hb
      · cases h
    · cases h
  · cases h

/-- a call -/
theorem call_wp (hB : B ≤ w.heap.size) (hC : CallOK P call) (R : Rel B w g s a) {c : Call} {f : FuncId} {args : List AV} {u : Nat} {res : Res} (hop : o.op = .call c) (hcal : calleeOf P s c = some (f, args))
    (h : modeCall H call u s.os f args = some res) (M : Meets B w g a K Q (fin s o.dst res)) : o.wp P a w K Q := by
  cases hm : H.mode f with
  | zero => exact call0_wp hB hC R hop hcal hm h M
  | succ m => exact call1_wp hB hC R hop hcal hm h M
end
end Go.Am
namespace Go.Am
variable [Env]
section
variable [Base]
variable {P : Program} {H : Hints} {B : Nat} {w w' w0 : World} {g g' g'' g0 g1 : Gh} {os os' os'' : OS} {s : St} {a : Act}
variable {o : Oper} {K : Act → World → Prop} {Q : Exit → Act → World → Prop} {cx : Cx} {r : R1} {call : CallFn}

/-- one operation -/
theorem stepO_wp (hB : B ≤ w.heap.size) (hC : CallOK P call) (R : Rel B w g s a) (h : stepO P H call cx o s = some r) (M : Meets B w g a K Q r) : o.wp P a w K Q := by
  have plain : ∀ op, o.op = op → (match stepV P s op with | some v => some (R1.ok (put s o.dst v)) | none => none) = some r → o.wp P a w K Q := by
    intro op hop h
    split at h
    · rename_i v hv
      cases h
      exact stepV_wp R (by rw [hop]; exact hv) M
    · cases h
  cases hop : o.op with
  | assign x => exact assign_wp R hop h M
  | alloc t => exact alloc_wp hB R hop h M
  | box t x => exact box_wp hB R hop h M
  | convert src dst x => exact convert_wp hB R hop h M
  | buildSlice t n parts => exact buildSlice_wp hB R hop h M
  | store t p x => exact store_wp R hop h M
  | mapUpdate t m k v => exact mapUpdate_wp R hop h M
  | range t x => exact range_wp hB R hop h M
  | panic x => exact panic_wp R hop h M
  | defer c => exact defer_wp R hop h M
  | makeMap t r =>
    cases r with
    | none => exact makeMap_wp hB R hop h M
    | some r => exact plain _ hop (by unfold stepO at h; rw [hop] at h; exact h)
  | next it b =>
    cases b with
    | true => exact next_wp R hop h M
    | false => exact plain _ hop (by unfold stepO at h; rw [hop] at h; exact h)
  | call c =>
    obtain ⟨callee, args, argTypes⟩ := c
    cases callee with
    | builtin b =>
      cases b with
      | append => exact append_wp hB R hop h M
      | recover => unfold stepO at h; rw [hop] at h; cases h
      | _ => exact plain _ hop (by unfold stepO at h; rw [hop] at h; exact h)
    | value f =>
      unfold stepO at h
      rw [hop] at h
      simp only at h
      split at h
      · rename_i fid av hcal
        split at h
        · rename_i res hres
          cases h
          exact call_wp hB hC R hop hcal hres M
        · cases h
      · cases h
    | invoke ro name =>
      unfold stepO at h
      rw [hop] at h
      simp only at h
      split at h
      · rename_i fid av hcal
        split at h
        · rename_i res hres
          cases h
          exact call_wp hB hC R hop hcal hres M
        · cases h
      · cases h
  | _ => exact plain _ hop (by unfold stepO at h; rw [hop] at h; exact h)

/-- what a region's end must bring -/
def MeetsR (B : Nat) (w : World) (g : Gh) (Q : Exit → Act → World → Prop) : Out → Prop
  | .norm s' => ∀ a' w' g', Rel B w' g' s' a' → Fr w g w' g' → B ≤ w'.heap.size → Q .normal a' w'
  | .ret s' => ∀ a' w' g', Rel B w' g' s' a' → Fr w g w' g' → B ≤ w'.heap.size → Q .ret a' w'
  | .exit id s' => ∀ a' w' g', Rel B w' g' s' a' → Fr w g w' g' → B ≤ w'.heap.size → Q (.exit id) a' w'
  | .pan v s' => ∀ c a' w' g', Rel B w' g' s' a' → AVR w' g' s'.os v c → Fr w g w' g' → B ≤ w'.heap.size → Q (.panic [{ v := c, recovered := false }]) a' w'

theorem MeetsR.after {Q : Exit → Act → World → Prop} {r : Out} (h : MeetsR B w g Q r) (F : Fr w g w' g') : MeetsR B w' g' Q r := by
  cases r with
  | norm s => exact fun a' w2 g2 R F2 hB => h a' w2 g2 R (F.trans F2) hB
  | ret s => exact fun a' w2 g2 R F2 hB => h a' w2 g2 R (F.trans F2) hB
  | exit id s => exact fun a' w2 g2 R F2 hB => h a' w2 g2 R (F.trans F2) hB
  | pan v s => exact fun c a' w2 g2 R V F2 hB => h c a' w2 g2 R V (F.trans F2) hB

/-- is an operation wanted? -/
theorem wanted_rel {ops : Array Oper} (R : Rel B w g s a) {b : Bool} (h : wantedA ops s o = some b) : Region.wanted o (yielded ops a.tmps) = b := by
  unfold wantedA at h
  unfold Region.wanted
  split at h
  · rename_i hg
    cases h
    rw [hg]
  · rename_i j want hg
    rw [hg]
    simp only
    split at h
    · rename_i d hd
      have hy : ∀ v, s.slots.get d = some v → a.tmps[d]? = some (a.tmps.getD d undef) := fun v hv => by
        have : d < a.tmps.size := R.size _ _ hv
        simp [Array.getD, this]
      split at h
      · rename_i b' hv
        cases h
        have hr : AVR w g s.os (.p (.at (.bool b'))) (a.tmps.getD d undef) := R.slots d _ hv
        have hb : a.tmps.getD d undef = .bool b' := by
          revert hr
          generalize a.tmps.getD d undef = c
          intro hr
          cases hr with | p hp => cases hp with | «at» _ => rfl
        have : yielded ops a.tmps j = some b' := by unfold yielded; rw [hd]; simp only [Option.bind_some, hy _ hv, hb]
        rw [this]
        cases b' <;> cases want <;> rfl
      · rename_i l hv
        cases h
        have hr : AVR w g s.os (.tup l) (a.tmps.getD d undef) := R.slots d _ hv
        have hb : ∃ vs, a.tmps.getD d undef = .tuple vs := by
          revert hr
          generalize a.tmps.getD d undef = c
          intro hr
          cases hr with | tup => exact ⟨_, rfl⟩
        obtain ⟨vs, hb⟩ := hb
        have : yielded ops a.tmps j = none := by unfold yielded; rw [hd]; simp only [Option.bind_some, hy _ hv, hb]
        rw [this]
        rfl
      · cases h
    · cases h

theorem runOps_wp {ops : Array Oper} (hC : CallOK P call) : ∀ (l : List Oper) (is : List Nat) (s : St) (a : Act) (w : World) (g : Gh) (r : Out), is.map (fun i => ops[i]?) = l.map some → B ≤ w.heap.size → Rel B w g s a → runOps (stepO P H call cx) ops l s = some r → MeetsR B w g Q r → wpOps P ops Q is a w
  | [], [], s, a, w, g, r, _, hB, R, h, M => by
    simp only [runOps] at h; cases h
    exact M a w g R (Fr.refl w g) hB
  | o :: l, i :: is, s, a, w, g, r, hi, hB, R, h, M => by
    simp only [List.map_cons, List.cons.injEq] at hi
    obtain ⟨ho, his⟩ := hi
    simp only [runOps] at h
    simp only [wpOps, ho]
    split at h
    · rename_i hw
      rw [wanted_rel R hw, if_pos rfl]
      refine .inl ?_
      split at h
      · rename_i s' hs
        exact stepO_wp hB hC R hs fun a' w' g' R' F => runOps_wp hC l is s' a' w' g' r his (Nat.le_trans hB F.size) R' h (M.after F)
      · rename_i v s' hs
        cases h
        exact stepO_wp hB hC R hs fun c w' g' R' V F => M c a w' g' R' V F (Nat.le_trans hB F.size)
      · cases h
    · rename_i hw
      rw [wanted_rel R hw, if_neg (by simp)]
      refine runOps_wp hC l is _ _ w g r his hB (R.put (v := .tup []) (c := undef) fun t _ => ?_) h M
      exact SVR.of t (.tup rfl fun j c v hc => by simp at hc)
    · cases h
  | [], i :: is, _, _, _, _, _, hi, _, _, _, _ => by simp at hi
  | o :: l, [], _, _, _, _, _, hi, _, _, _, _ => by simp at hi

theorem region_wp {ops : Array Oper} {id : Nat} (hC : CallOK P call) (hB : B ≤ w.heap.size) (R : Rel B w g s a) {r : Out} (h : runOps (stepO P H call cx) ops ops.toList s = some r) (M : MeetsR B w g Q r) : (Code.region id ops false).wp P Q a w := by
  refine wp_region (runOps_wp hC ops.toList _ s a w g r ?_ hB R h M)
  apply List.ext_getElem?
  intro j
  simp only [List.getElem?_map]
  rcases Nat.lt_or_ge j ops.size with hj | hj
  · rw [List.getElem?_range hj]
    simp [hj]
  · rw [List.getElem?_eq_none (by simpa using hj), List.getElem?_eq_none (by simpa using hj)]
    rfl
end
end Go.Am
namespace Go.Am
variable [Env]
section
variable [Base]
variable {P : Program} {H : Hints} {B : Nat} {w w' w0 : World} {g g' g'' g0 g1 : Gh} {os os' os'' : OS} {s : St} {a : Act}
variable {o : Oper} {K : Act → World → Prop} {Q : Exit → Act → World → Prop} {cx : Cx} {call : CallFn}

theorem keepU_get {us : List Nat} : ∀ {os : OS} {k : Nat}, getObj (keepU us os) k = if us.contains (k / 64) then getObj os k else none
  | [], k => by simp [keepU, getObj]
  | (j, o) :: m, k => by
    have ih := keepU_get (us := us) (os := m) (k := k)
    simp only [keepU]
    split
    · rename_i hc
      rw [getObj_cons, getObj_cons, ih]
      split
      · rename_i e; subst e; rw [if_pos hc]
      · rfl
    · rename_i hc
      rw [ih, getObj_cons]
      split
      · rename_i hk
        split
        · rename_i e; subst e; exact absurd hk hc
        · rfl
      · rfl

theorem subU_mem {us : List Nat} : ∀ {ks : List Nat}, subU us ks = true → ∀ k ∈ ks, us.contains (k / 64) = true
  | [], _, k, h => by simp at h
  | x :: ks, h, k, hk => by
    simp only [subU, Bool.and_eq_true] at h
    rcases List.mem_cons.1 hk with rfl | hk
    · exact h.1
    · exact subU_mem h.2 k hk
theorem closedU_mem {us : List Nat} : ∀ {os : OS}, closedU us os = true → ∀ k o, getObj os k = some o → us.contains (k / 64) = true → ∀ j ∈ refO o, us.contains (j / 64) = true
  | [], _, k, o, h, _ => by cases h
  | (i, x) :: m, h, k, o, ho, hc => by
    simp only [closedU, Bool.and_eq_true, Bool.or_eq_true, Bool.not_eq_true'] at h
    rw [getObj_cons] at ho
    split at ho
    · rename_i e; subst e; cases ho
      rcases h.1 with h1 | h1
      · rw [hc] at h1; cases h1
      · exact subU_mem h1
    · exact closedU_mem h.2 k o ho hc

theorem refss_mem : ∀ {cs : List AV} {j : Nat} {c : AV}, cs[j]? = some c → ∀ k ∈ refs c, k ∈ refss cs
  | [], j, c, h => by simp at h
  | x :: xs, 0, c, h => fun k hk => by
    simp at h; subst h
    simp only [refss, List.mem_append]; exact .inl hk
  | x :: xs, j + 1, c, h => fun k hk => by
    simp only [refss, List.mem_append]
    exact .inr (refss_mem (by simpa using h) k hk)
theorem refEs_mem : ∀ {es : List (PV × AV)} {j : Nat} {e : PV × AV}, es[j]? = some e → ∀ k ∈ refs e.2, k ∈ refEs es
  | [], j, e, h => by simp at h
  | (p, v) :: es, 0, e, h => fun k hk => by
    simp at h; subst h
    simp only [refEs, List.mem_append]; exact .inl hk
  | (p, v) :: es, j + 1, e, h => fun k hk => by
    simp only [refEs, List.mem_append]
    exact .inr (refEs_mem (by simpa using h) k hk)

/-- a value, where only what it leads to is kept -/
theorem AVR.kept {us : List Nat} (hos : ∀ k o, us.contains (k / 64) = true → getObj os k = some o → getObj os' k = some o ∧ g'.bk (.obj k) = g.bk (.obj k)) (hI : ∀ b o, g.I b o → g'.I b o) {v : AV} {c : Value} (h : AVR w g os v c)
    (hr : ∀ k ∈ refs v, us.contains (k / 64) = true) : AVR w g' os' v c := by
  have hm : ∀ {x : PV} {u : Value}, PVR w g.I x u → PVR w g'.I x u := fun hp => hp.mono fun b o hb => ⟨hI b o hb, rfl⟩
  induction h with
  | p hp => exact .p (hm hp)
  | undef => exact .undef
  | nilf => exact .nilf
  | elem vs h1 hc h2 hv => exact .elem vs (fun j y hy => hI _ _ (h1 j y hy)) hc h2 (fun j y hy => hm (hv j y hy))
  | @ptr k off b ho hb =>
    have hk := hr k (by simp [refs])
    rcases ho with ⟨cs, ho⟩ | ⟨s, n, ho⟩
    · obtain ⟨q1, q2⟩ := hos k _ hk ho
      exact .ptr (.inl ⟨_, q1⟩) (q2.trans hb)
    · obtain ⟨q1, q2⟩ := hos k _ hk ho
      exact .ptr (.inr ⟨_, _, q1⟩) (q2.trans hb)
  | @mp k b es ho hb =>
    obtain ⟨q1, q2⟩ := hos k _ (hr k (by simp [refs])) ho
    exact .mp q1 (q2.trans hb)
  | @eptr k i off n sz lo xs sh v ho hi hn h1 hv =>
    obtain ⟨q1, q2⟩ := hos k _ (hr k (by simp [refs])) ho
    exact .eptr q1 hi hn h1 fun e => by rw [q2]; exact hv e
  | @row k off len sz lo cap xs sh a ho hl hcap hcur hc' =>
    obtain ⟨q1, q2⟩ := hos k _ (hr k (by simp [refs])) ho
    refine .row q1 hl hcap (fun e1 e2 => by rw [q2]; exact hcur e1 e2) ?_
    rcases hc' with h1 | h1 | ⟨b, h1, h2⟩ | h1
    · exact .inl h1
    · exact .inr (.inl h1)
    · exact .inr (.inr (.inl ⟨b, q2.trans h1, h2⟩))
    · exact .inr (.inr (.inr (hm h1)))
  | fn hs _ ih => exact .fn hs fun j c v hc hv => ih j c v hc hv fun k hk => hr k (by simp only [refs]; exact refss_mem hc k hk)
  | ifc _ ih => exact .ifc (ih fun k hk => hr k (by simp only [refs]; exact hk))
  | agg hs h1 _ ih => exact .agg hs h1 fun j c v hc hv => ih j c v hc hv fun k hk => hr k (by simp only [refs]; exact refss_mem hc k hk)
  | tup hs _ ih => exact .tup hs fun j c v hc hv => ih j c v hc hv fun k hk => hr k (by simp only [refs]; exact refss_mem hc k hk)

theorem wipe_rel : ∀ (ts : List Tmp) {s : St}, Rel B w g s a → Rel B w g { s with slots := wipe s.slots ts } a
  | [], s, R => R
  | t :: ts, s, R => by
    simp only [wipe]
    have R1 : Rel B w g { s with slots := s.slots.set t .undef } a := ⟨R.mem, fun t' u hu => (by
      rcases slots_set_get hu with ⟨rfl, _, u', hu'⟩ | ⟨_, hu⟩
      · exact R.size _ _ hu'
      · exact R.size _ _ hu), fun t' u hu => by
      rcases slots_set_get hu with ⟨_, rfl, _⟩ | ⟨_, hu⟩
      · exact AVR.undef
      · exact R.slots t' u hu, R.dlen, R.dfr⟩
    exact wipe_rel ts R1

theorem addU_mem : ∀ (ks us : List Nat) (x : Nat), x ∈ us → x ∈ addU us ks
  | [], us, x, h => h
  | k :: ks, us, x, h => by
    simp only [addU]
    split
    · exact addU_mem ks us x h
    · exact addU_mem ks _ x (List.mem_append.2 (.inl h))
theorem reachU_mem (os : OS) : ∀ (n i : Nat) (us : List Nat) (x : Nat), x ∈ us → x ∈ reachU os n i us
  | 0, i, us, x, h => h
  | n + 1, i, us, x, h => by
    simp only [reachU]
    split
    · exact reachU_mem os n (i + 1) _ x (addU_mem _ _ x h)
    · exact h
theorem refD_mem : ∀ {ds : List (AV × List AV)} {j : Nat} {x : AV × List AV}, ds[j]? = some x → (∀ k ∈ refs x.1, k ∈ refD ds) ∧ ∀ k ∈ refss x.2, k ∈ refD ds
  | [], j, x, h => by simp at h
  | (f, a) :: ds, 0, x, h => by
    simp at h; subst h
    simp only [refD, List.mem_append]
    exact ⟨fun k hk => .inl (.inl hk), fun k hk => .inl (.inr hk)⟩
  | (f, a) :: ds, j + 1, x, h => by
    obtain ⟨h1, h2⟩ := refD_mem (ds := ds) (j := j) (x := x) (by simpa using h)
    simp only [refD, List.mem_append]
    exact ⟨fun k hk => .inr (h1 k hk), fun k hk => .inr (h2 k hk)⟩

/-- what is still led to is kept -/
theorem keep_rel {us : List Nat} (R : Rel B w g s a) (hs : subU us (refT s.slots.t) = true) (hd : subU us (refD s.dfr) = true) (hc : closedU us s.os = true) (hW : ∀ v c, g.W v c → ∀ k ∈ refs v, us.contains (k / 64) = true) :
    ∃ g', Rel B w g' { s with os := keepU us s.os } a ∧ g'.W = g.W ∧ Fr w g w g' := by
  let g' : Gh := { bk := (fun y => match y with
      | .slot t => g.bk (.slot t)
      | .obj k => if us.contains (k / 64) = true then g.bk (.obj k) else none), I := g.I, W := g.W }
  have ebk : ∀ {k}, us.contains (k / 64) = true → g'.bk (.obj k) = g.bk (.obj k) := fun {k} h => by
    show (if _ then _ else _) = _
    rw [if_pos h]
  have esub : ∀ x b, g'.bk x = some b → g.bk x = some b := fun x b hx => by
    cases x with
    | slot t => exact hx
    | obj k =>
      have hx' : (if us.contains (k / 64) = true then g.bk (.obj k) else none) = some b := hx
      split at hx'
      · exact hx'
      · cases hx'
  have hos : ∀ k o, us.contains (k / 64) = true → getObj s.os k = some o → getObj (keepU us s.os) k = some o ∧ g'.bk (.obj k) = g.bk (.obj k) := fun k o h ho => ⟨by rw [keepU_get, if_pos h]; exact ho, ebk h⟩
  have tv : ∀ {v : AV} {c : Value}, AVR w g s.os v c → (∀ k ∈ refs v, us.contains (k / 64) = true) → AVR w g' (keepU us s.os) v c := fun h hr => h.kept hos (fun _ _ h => h) hr
  have hI0 : ∀ b o, g.I b o → g'.I b o ∧ w.cell? ⟨b, o, none⟩ = w.cell? ⟨b, o, none⟩ := fun b o h => ⟨h, rfl⟩
  have RO : RelO B w g' (keepU us s.os) := by
    refine ⟨fun k o ho => ?_, fun k b hb => ?_, fun x y b hx hy => R.mem.inj x y b (esub x b hx) (esub y b hy), fun x b hx => R.mem.lt x b (esub x b hx), R.mem.ilt, fun v c hv => tv (R.mem.watch v c hv) (hW v c hv), R.mem.base⟩
    · rw [keepU_get] at ho
      split at ho
      · rename_i hk
        have hroot := closedU_mem hc k o ho hk
        have h0 := R.mem.obj k o ho
        cases o with
        | cells cs =>
          obtain ⟨b, vs, el, h1, h2, h3, h4, h5⟩ := h0
          exact ⟨b, vs, el, (ebk hk).trans h1, h2, h3, fun j c v hc hv => ⟨tv (h4 j c v hc hv).1 fun i hi => hroot i (by simp only [refO]; exact refss_mem hc i hi), (h4 j c v hc hv).2⟩, h5⟩
        | map es =>
          obtain ⟨b, mes, clk, h1, h2, h3, h4, h5⟩ := h0
          exact ⟨b, mes, clk, (ebk hk).trans h1, h2, h3, fun j e m he hm => ⟨(h4 j e m he hm).1.mono hI0, tv (h4 j e m he hm).2 fun i hi => hroot i (by simp only [refO]; exact refEs_mem he i hi)⟩, h5⟩
        | iter s n =>
          obtain ⟨b, h1, h2⟩ := h0
          exact ⟨b, (ebk hk).trans h1, h2⟩
        | row sz xs lo sh =>
          obtain ⟨h1, h2⟩ := h0
          refine ⟨h1, ?_⟩
          rcases h2 with ⟨q1, q2⟩ | ⟨b, vs, el, fr, cap, q1, q2, q3, q4, q5, q6, q7⟩
          · exact .inl ⟨(ebk hk).trans q1, q2⟩
          · exact .inr ⟨b, vs, el, fr, cap, (ebk hk).trans q1, q2, q3, q4, q5, q6.mono hI0, q7⟩
      · cases ho
    · have hb' : (if us.contains (k / 64) = true then g.bk (.obj k) else none) = some b := hb
      split at hb'
      · rename_i hk
        obtain ⟨o, ho⟩ := R.mem.dom k b hb'
        exact ⟨o, by rw [keepU_get, if_pos hk]; exact ho⟩
      · cases hb'
  refine ⟨g', ⟨RO, R.size, fun t v hv => ?_, R.dlen, fun j x d h1 h2 => ?_⟩, rfl, ⟨Nat.le_refl _, rfl, rfl, rfl, hI0, fun _ _ _ => rfl, fun x b hx _ => ⟨x, esub x b hx⟩, fun _ _ h _ => .inl h, fun _ _ h => h⟩⟩
  · have hr := R.slots t v hv
    have hroot : ∀ k ∈ refs v, us.contains (k / 64) = true := fun k hk => subU_mem hs k (refS_mem hv k hk)
    cases v with
    | fresh sz xs =>
      rcases (hr : FR w g t sz xs _) with h | ⟨b, vs, el, fr, cap, h1, h2, h3, h4, h5, h6, h7, h8⟩
      · exact .inl h
      · exact .inr ⟨b, vs, el, fr, cap, h1, h2, h3, h4, h5, h6, h7.mono hI0, h8⟩
    | uniq sz xs =>
      rcases (hr : UR w g t sz xs _) with h | ⟨b, vs, el, fr, cap, h1, h2, h3, h4, h5, h6, h7, h8⟩
      · exact .inl h
      · exact .inr ⟨b, vs, el, fr, cap, h1, h2, h3, h4, h5, h6, h7.mono hI0, h8⟩
    | _ => exact tv hr hroot
  · obtain ⟨f, cap, vs, e1, e2, e3, e4⟩ := R.dfr j x d h1 h2
    obtain ⟨m1, m2⟩ := refD_mem h1
    refine ⟨f, cap, vs, e1, e2, ⟨e3.1, fun i c v hc hv => tv (e3.2 i c v hc hv) fun k hk => subU_mem hd k (m1 k ?_)⟩, ⟨e4.1, fun i c v hc hv => tv (e4.2 i c v hc hv) fun k hk => subU_mem hd k (m2 k (refss_mem hc k hk))⟩⟩
    rw [e1]; simp only [refs]; exact refss_mem hc k hk

theorem sweep_rel (R : Rel B w g s a) (hW : ∀ v c, g.W v c → ∀ k ∈ refs v, k / 64 < cx.ub) (dead : List Tmp) : ∃ g', Rel B w g' (sweep cx dead s) a ∧ g'.W = g.W ∧ Fr w g w g' := by
  have R1 := wipe_rel dead R
  unfold sweep
  split
  · exact ⟨g, R, rfl, Fr.refl w g⟩
  simp only
  split
  · rename_i hc
    simp only [Bool.and_eq_true] at hc
    obtain ⟨⟨h1, h2⟩, h3⟩ := hc
    refine keep_rel R1 h1 h2 h3 fun v c hv k hk => ?_
    rw [List.contains_iff_mem]
    exact reachU_mem _ _ _ _ _ (addU_mem _ _ _ (addU_mem _ _ _ (List.mem_range.2 (hW v c hv k hk))))
  · exact ⟨g, R1, rfl, Fr.refl w g⟩

/-- the watched values, cut down -/
theorem Rel.rew (R : Rel B w g s a) {W0 : AV → Value → Prop} (h : ∀ v c, W0 v c → g.W v c) : Rel B w { g with W := W0 } s a := by
  have G := Grew.refl w
  exact Rel.ev (g' := { g with W := W0 }) R (RelO.grew G R.mem (fun _ => rfl) (fun _ _ h => h) (fun _ _ h => .inl h) R.mem.inj R.mem.lt h) (G.tr R.mem (fun _ => rfl) (fun _ _ h => h)) (fun t b hb => ⟨hb, rfl, fun _ h => h⟩)
theorem Fr.rew (F : Fr w g w' g') : Fr w g w' { g' with W := g.W } :=
  ⟨F.size, F.tape, F.os, F.output, F.imm, F.rest, F.own, F.inew, fun _ _ h => h⟩
end
end Go.Am
namespace Go.Am
variable [Env]
section
variable [Base]
variable {P : Program} {H : Hints} {B : Nat} {w w' w0 : World} {g g' g'' g0 g1 : Gh} {os os' os'' : OS} {s : St} {a : Act}
variable {Q : Exit → Act → World → Prop} {cx : Cx} {call : CallFn} {dr : DrawnFn}

/-- a region that draws its order: the text's order is as good as any -/
def DrOK (P : Program) (dr : DrawnFn) (call : CallFn) (cx : Cx) (id : Nat) (ops : Array Oper) : Prop := ∀ (s : St) (r : Out), dr call cx id ops s = some r →
  ∀ (B : Nat) (w : World) (g : Gh) (a : Act) (Q : Exit → Act → World → Prop), B ≤ w.heap.size → Rel B w g s a → MeetsR B w g Q r → (Code.region id ops true).wp P Q a w
/-- all the regions that draw their order -/
def DrC (p : Nat → Array Oper → Prop) : Code → Prop
  | .region id ops true => p id ops
  | .seq a b => DrC p a ∧ DrC p b
  | .cond _ a b => DrC p a ∧ DrC p b
  | .block _ b => DrC p b
  | .loop b => DrC p b
  | _ => True
abbrev DrawnOK (P : Program) (dr : DrawnFn) (call : CallFn) (cx : Cx) (c : Code) : Prop := DrC (DrOK P dr call cx) c

/-- the watched values lead to what came in alone -/
def Watch (cx : Cx) (g : Gh) : Prop := ∀ v c, g.W v c → ∀ k ∈ refs v, k / 64 < cx.ub

theorem evC_wp (hC : CallOK P call) (n : Nat) : ∀ (c : Code) (_ : DrawnOK P dr call cx c) (s : St) (r : Out), evC H (stepO P H) dr call n cx c s = some r → ∀ (B : Nat) (w : World) (g : Gh) (a : Act) (Q : Exit → Act → World → Prop), B ≤ w.heap.size → Watch cx g → Rel B w g s a → MeetsR B w g Q r → c.wp P Q a w := by
  intro c
  induction c with
  | skip =>
    intro hD s r h B w g a Q hB hW R M
    simp only [evC] at h; cases h
    exact wp_skip (M a w g R (Fr.refl w g) hB)
  | label l =>
    intro hD s r h B w g a Q hB hW R M
    simp only [evC] at h; cases h
    exact wp_label (M a w g R (Fr.refl w g) hB)
  | region id ops d =>
    intro hD s r h B w g a Q hB hW R M
    cases d with
    | false =>
      simp only [evC] at h
      exact region_wp hC hB R h M
    | true =>
      simp only [evC] at h
      exact hD s r h B w g a Q hB R M
  | seq x y ihx ihy =>
    intro hD s r h B w g a Q hB hW R M
    simp only [evC] at h
    refine wp_seq ?_
    split at h
    · rename_i s1 hx
      refine ihx hD.1 s _ hx B w g a _ hB hW R fun a' w' g' R' F hB' => ?_
      exact ihy hD.2 s1 r h B w' { g' with W := g.W } a' Q hB' hW (R'.rew F.watch) (M.after F.rew)
    · rename_i r' hne
      refine ihx hD.1 s r h B w g a _ hB hW R ?_
      cases r with
      | norm s1 => exact absurd h (hne s1)
      | ret s1 => exact M
      | exit id s1 => exact M
      | pan v s1 => exact M
  | cond c x y ihx ihy =>
    intro hD s r h B w g a Q hB hW R M
    simp only [evC] at h
    split at h
    · rename_i v hv
      split at h
      · rename_i hb
        have := asB_rel hb ((ev1_rel R hv).avr (asB_nf hb))
        exact wp_cond_true this (ihx hD.1 s r h B w g a Q hB hW R M)
      · rename_i hb
        have := asB_rel hb ((ev1_rel R hv).avr (asB_nf hb))
        exact wp_cond_false this (ihy hD.2 s r h B w g a Q hB hW R M)
      · cases h
    · cases h
  | block id b ih =>
    intro hD s r h B w g a Q hB hW R M
    simp only [evC] at h
    refine wp_block ?_
    split at h
    · rename_i id' s1 hx
      split at h
      · rename_i he
        cases h
        refine ih hD s _ hx B w g a _ hB hW R fun a' w' g' R' F hB' => ?_
        show (if id' = id then _ else _)
        rw [if_pos he]; exact M a' w' g' R' F hB'
      · rename_i he
        cases h
        refine ih hD s _ hx B w g a _ hB hW R fun a' w' g' R' F hB' => ?_
        show (if id' = id then _ else _)
        rw [if_neg he]; exact M a' w' g' R' F hB'
    · rename_i r' hne
      refine ih hD s r h B w g a _ hB hW R ?_
      cases r with
      | norm s1 => exact M
      | ret s1 => exact M
      | exit id' s1 => exact absurd h (hne id' s1)
      | pan v s1 => exact M
  | loop b ih =>
    intro hD s r h B w g a Q hB hW R M
    simp only [evC] at h
    refine wp_loop_rounds n ?_
    have key : ∀ m s r, iter (evC H (stepO P H) dr call n cx b) (sweep cx (H.dead cx.f (firstRegion b))) m s = some r → ∀ (w : World) (g : Gh) (a : Act), B ≤ w.heap.size → Watch cx g → Rel B w g s a → MeetsR B w g Q r → Code.rounds P b Q m a w := by
      intro m
      induction m with
      | zero => intro s r h; cases h
      | succ m ihm =>
        intro s r h w g a hB hW R M
        simp only [iter] at h
        rw [rounds_succ]
        split at h
        · rename_i s1 hx
          refine ih hD s _ hx B w g a _ hB hW R fun a' w' g' R' F hB' => ?_
          obtain ⟨g2, R2, hw2, F2⟩ := sweep_rel (cx := cx) (R'.rew F.watch) hW (H.dead cx.f (firstRegion b))
          have hW2 : Watch cx g2 := fun v c hv => hW v c (by rw [hw2] at hv; exact hv)
          exact ihm _ r h w' g2 a' hB' hW2 R2 (M.after (F.rew.trans F2))
        · rename_i r' hne
          refine ih hD s r h B w g a _ hB hW R ?_
          cases r with
          | norm s1 => exact absurd h (hne s1)
          | ret s1 => exact M
          | exit id s1 => exact M
          | pan v s1 => exact M
    exact key n s r h w g a hB hW R M
  | exit id =>
    intro hD s r h B w g a Q hB hW R M
    simp only [evC] at h; cases h
    exact wp_exit (M a w g R (Fr.refl w g) hB)
  | ret =>
    intro hD s r h B w g a Q hB hW R M
    simp only [evC] at h; cases h
    exact wp_ret (M a w g R (Fr.refl w g) hB)
  | _ => intro hD s r h; simp [evC] at h
end
end Go.Am
namespace Go.Am
variable [Env]
section
variable [Base]
variable {P : Program} {H : Hints} {B : Nat} {w w' w0 : World} {g g' g'' g0 g1 : Gh} {os os' os'' : OS} {s : St} {a : Act}
variable {Q : Exit → Act → World → Prop} {cx : Cx} {call : CallFn} {dr : DrawnFn}

theorem loadN_ptr {n : Nat} {b : Bool} {x v : AV} {c : Value} (h : loadN os n b x = some v) (hx : AVR w g os x c) : ∃ ad, c = .pointer (some ad) := by
  unfold loadN at h
  split at h
  · cases hx with | ptr => exact ⟨_, rfl⟩
  · cases hx with | elem => exact ⟨_, rfl⟩
  · cases hx with | eptr _ _ _ h1 _ => obtain ⟨_, _, rfl⟩ := h1; exact ⟨_, rfl⟩
  · cases h

theorem resOf_rel (R : Rel B w g s a) : ∀ (rs : List ResultVar) (vs : List AV), resOf P s rs = some vs →
    ∃ us : List Value, (rs.mapM (fun (r : ResultVar) => (match r with | .tmp t => pure (a.tmps.getD t undef) | .cell ad t => do loadVar t (← asAddr (a.tmps.getD ad undef)) : Sem Value))).run P w = .ok us w ∧ us.length = vs.length ∧
      ∀ (j : Nat) (v : AV) (u : Value), vs[j]? = some v → us[j]? = some u → ∃ t, SVR w g s.os t v u
  | [], vs, h => by
    simp only [resOf] at h; cases h
    exact ⟨[], rfl, rfl, fun j v u h => by simp at h⟩
  | .tmp t :: rs, vs, h => by
    simp only [resOf] at h
    split at h
    · rename_i v vs' hv hvs
      cases h
      obtain ⟨us, h1, h2, h3⟩ := resOf_rel R rs vs' hvs
      refine ⟨a.tmps.getD t undef :: us, by rw [List.mapM_cons]; simp only [Sem.run_bind, Sem.run_pure, Result.andThen_ok, h1], by simp [h2], fun j x u hx hu => ?_⟩
      cases j with
      | zero => simp at hx; subst hx; simp only [List.getElem?_cons_zero, Option.some.injEq] at hu; subst hu; exact ⟨t, R.slots t _ hv⟩
      | succ j => exact h3 j x u (by simpa using hx) (by simpa using hu)
    · cases h
  | .cell ad t :: rs, vs, h => by
    simp only [resOf] at h
    split at h
    · rename_i p n isAgg hp hsh
      split at h
      · rename_i v vs' hv hvs
        cases h
        obtain ⟨us, h1, h2, h3⟩ := resOf_rel R rs vs' hvs
        have hr : AVR w g s.os p (a.tmps.getD ad undef) := SVR.avr (R.slots ad p hp) (loadN_nf hv)
        obtain ⟨c, q1, q2⟩ := loadN_rel (P := P) R.mem hv hr hsh
        obtain ⟨addr, he⟩ := loadN_ptr hv hr
        rw [he] at q1
        have q1' : (loadVar t addr).run P w = .ok c w := by simpa [Instr.loadAt, Instr.sureAddr] using q1
        have ha : (asAddr (a.tmps.getD ad undef)).run P w = .ok addr w := by rw [he]; rfl
        refine ⟨c :: us, by rw [List.mapM_cons]; simp only [Sem.run_bind, ha, Sem.run_pure, Result.andThen_ok, q1', h1], by simp [h2], fun j x u hx hu => ?_⟩
        cases j with
        | zero => simp at hx hu; subst hx; subst hu; exact ⟨0, .of 0 q2⟩
        | succ j => exact h3 j x u (by simpa using hx) (by simpa using hu)
      · cases h
    · cases h

theorem result_rel (R : Rel B w g s a) {fn : Func} {v : AV} (h : result P fn s = some v) : ∃ c, (results fn a.tmps).run P w = .ok c w ∧ ∃ t, SVR w g s.os t v c := by
  have run : ∀ us : List Value, (fn.results.toList.mapM (fun (r : ResultVar) => (match r with | .tmp t => pure (a.tmps.getD t undef) | .cell ad t => do loadVar t (← asAddr (a.tmps.getD ad undef)) : Sem Value))).run P w = .ok us w →
      (results fn a.tmps).run P w = .ok (if h : us.toArray.size = 1 then us.toArray[0] else .tuple us.toArray) w := by
    intro us hus
    unfold results
    rw [Array.mapM_eq_mapM_toList]
    simp only [Sem.run_bind]
    have := run_map_ok (P := P) (w := w) List.toArray hus
    exact (congrArg (fun z => Result.andThen z _) this).trans rfl
  unfold result at h
  split at h
  · rename_i v' hvs
    cases h
    obtain ⟨us, h1, h2, h3⟩ := resOf_rel R _ _ hvs
    cases us with
    | nil => simp at h2
    | cons u us =>
      cases us with
      | cons => simp at h2
      | nil => exact ⟨u, by rw [run _ h1]; rfl, h3 0 v u rfl rfl⟩
  · rename_i vs hne hvs
    cases h
    obtain ⟨us, h1, h2, h3⟩ := resOf_rel R _ _ hvs
    have hlen : us.length ≠ 1 := by
      intro h
      rw [h2] at h
      cases vs with
      | nil => simp at h
      | cons v vs => cases vs with
        | nil => exact hne v rfl
        | cons => simp at h
    refine ⟨.tuple us.toArray, by rw [run _ h1, dif_neg (by simpa using hlen)], 0, SVR.of 0 (.tup (by simp [cps_length, h2]) fun j c u hc hu => ?_)⟩
    obtain ⟨z, hz, rfl⟩ := cps_get _ j c hc
    obtain ⟨t, ht⟩ := h3 j z u hz (by simpa using hu)
    exact ht.cp
  · cases h
end
end Go.Am
namespace Go.Am
variable [Env]
section
variable [Base]
variable {P : Program} {H : Hints} {B : Nat} {w w' w0 : World} {g g' g'' g0 g1 : Gh} {os os' os'' : OS} {s : St} {a : Act}
variable {Q : Exit → Act → World → Prop} {cx : Cx} {call : CallFn} {dr : DrawnFn}

/-- the state that a function begins with -/
theorem entry_rel (R : RelO B w g os) (hs : ∀ t, g.bk (.slot t) = none) {args : List AV} {vs : Array Value} (hv : AVRs w g os args vs) (fn : Func) :
    Rel B w g (first fn args os) { tmps := vs ++ Array.replicate (fn.ntmps - vs.size) undef, defers := [] } := by
  refine ⟨R, fun t v h => ?_, fun t v h => ?_, rfl, fun j x d h => by simp [first] at h⟩
  · have := get_lt h
    simp only [first, fill_n] at this
    simp only [Array.size_append, Array.size_replicate]
    omega
  · rcases fill_get args 0 _ t v h with ⟨h1, h2⟩ | ⟨h1, h2⟩
    · rw [Nat.sub_zero] at h2
      have hlt : t < vs.size := by rw [hv.1]; exact (List.getElem?_eq_some_iff.1 h2).1
      have : (vs ++ Array.replicate (fn.ntmps - vs.size) undef).getD t undef = vs[t] := by
        simp [Array.getD, hlt, Array.getElem_append, Nat.lt_of_lt_of_le hlt (Nat.le_add_right _ _)]
      show SVR w g os t v ((vs ++ Array.replicate (fn.ntmps - vs.size) undef).getD t undef)
      rw [this]
      exact SVR.of t (hv.2 t v _ h2 (Array.getElem?_eq_getElem hlt))
    · have hvt : v = .tup [] := by
        unfold Slots.get at h2
        split at h2
        · exact full_look _ _ h2
        · cases h2
      subst hvt
      have hn : t < fn.ntmps := by have := get_lt h2; exact this
      have hge : ¬ t < vs.size := by rw [hv.1]; omega
      have : (vs ++ Array.replicate (fn.ntmps - vs.size) undef).getD t undef = undef := by
        have hlt : t < vs.size + (fn.ntmps - vs.size) := by omega
        simp [Array.getD, hlt, Array.getElem_append, hge]
      show SVR w g os t (.tup []) ((vs ++ Array.replicate (fn.ntmps - vs.size) undef).getD t undef)
      rw [this]
      exact SVR.of t (.tup rfl fun j c v hc => by simp at hc)
end
end Go.Am
namespace Go.Am
variable [Env]
section
variable [Base]
variable {P : Program} {call : CallFn}

/-- numbers and texts, nothing else: what a law's function is given -/
theorem end_true (hC : CallOK P call) {f : FuncId} {args : List AV} {vs : Array Value} {os' : OS} (h : call f args [] 0 = some (.ret (.p (.at (.bool true))) os')) (w : World) (hb : Based w.heap.size w)
    (hv : vs.size = args.length ∧ ∀ (j : Nat) (v : AV) (u : Value), args[j]? = some v → vs[j]? = some u → (v = .p (.at u) ∨ ∃ i, v = .p (.sym i) ∧ u = Env.val i) ∧ u.oneCell' = true) :
    Calls P f vs w (fun e w' => e = .returned (.bool true) ∧ Go.RowKit.Below w.heap.size w w') := by
  obtain ⟨_, hc⟩ := hC f args [] 0 _ h
  refine (hc w.heap.size w ⟨fun _ => none, fun _ _ => False, fun _ _ => False⟩ vs (Nat.le_refl _) ⟨fun k o h => (by cases h), fun k b h => (by cases h), fun x y b h => (by cases h), fun x b h => (by cases h), fun b o h => h.elim, fun v c h => h.elim, hb⟩ (fun _ => rfl) (fun v c h => h.elim)
    ⟨hv.1, fun j v u h1 h2 => by obtain ⟨h0, h3⟩ := hv.2 j v u h1 h2; rcases h0 with rfl | ⟨i, rfl, rfl⟩; exact .p (.at h3); exact .p (.sym h3)⟩).mono fun e w' he => ?_
  cases e with
  | returned c =>
    obtain ⟨g', _, ⟨t, hr⟩, F⟩ := he
    have hr' : AVR w' g' os' (.p (.at (.bool true))) c := hr
    have : c = .bool true := by cases hr' with | p hp => cases hp with | «at» _ => rfl
    subst this
    exact ⟨rfl, ⟨F.os, F.tape, F.output, F.size, fun b hb => F.rest b hb fun x => by simp⟩⟩
  | panicked ch => exact he.elim
  | outgrown => exact he.elim
end
end Go.Am
namespace Go.Am
variable [Env]
section
variable [Base]
variable {P : Program} {H : Hints} {B : Nat} {w w' w0 : World} {g g' g'' g0 g1 : Gh} {os os' os'' : OS} {s : St} {a : Act}
variable {cx : Cx} {call : CallFn} {callD : CallD} {dr : DrawnFn}

theorem flats_get : ∀ {cs : List AV} {j : Nat} {c : AV}, flats cs = true → cs[j]? = some c → flat c = true
  | [], j, c, _, h => by simp at h
  | x :: xs, 0, c, hf, h => by simp at h; subst h; simp only [flats, Bool.and_eq_true] at hf; exact hf.1
  | x :: xs, j + 1, c, hf, h => by simp only [flats, Bool.and_eq_true] at hf; exact flats_get hf.2 (by simpa using h)

/-- data that leads nowhere stands for the same everywhere -/
theorem flat_rel {v : AV} {c : Value} (h : AVR w g os v c) : flat v = true → AVR w' g' os' v c := by
  induction h with
  | p hp =>
    intro hf
    cases hp with
    | «at» h => exact .p (.at h)
    | _ => simp [flat] at hf
  | ifc h ih => intro hf; exact .ifc (ih (by simpa [flat] using hf))
  | agg hs h1 hv ih => intro hf; exact .agg hs h1 fun j c v hc hv => ih j c v hc hv (flats_get (by simpa [flat] using hf) hc)
  | tup hs hv ih => intro hf; exact .tup hs fun j c v hc hv => ih j c v hc hv (flats_get (by simpa [flat] using hf) hc)
  | _ => intro hf; simp [flat] at hf

/-- a panic on its way, as the frame tells it -/
def PanS (w : World) (g : Gh) (os : OS) : Option AV → FrameMode → Prop
  | none, u => u = .returning
  | some v, u => ∃ c, u = .panicking [{ v := c, recovered := false }] ∧ AVR w g os v c
/-- what a deferred call leaves of it -/
def PanR : Option AV → FrameMode → Prop
  | none, u => u = .returning ∨ ∃ c, u = .panicking [{ v := c, recovered := true }]
  | some v, u => flat v = true ∧ ∃ c, u = .panicking [{ v := c, recovered := false }] ∧ ∀ w g os, AVR w g os v c

theorem PanR.settled {v : Option AV} {u : FrameMode} (h : PanR v u) : PanS w g os v (settle u) := by
  cases v with
  | none =>
    rcases h with rfl | ⟨c, rfl⟩
    · rfl
    · rfl
  | some v =>
    obtain ⟨_, c, rfl, hv⟩ := h
    exact ⟨c, rfl, hv w g os⟩
theorem PanS.pan {v : Option AV} {u : FrameMode} (h : PanS w g os v u) (hf : flatP v = true) : PanR v u := by
  cases v with
  | none => exact .inl h
  | some v =>
    obtain ⟨c, rfl, hv⟩ := h
    have : flat v = true := by
      cases v with
      | ifc t x => simpa [flatP, flat] using hf
      | _ => simp [flatP] at hf
    exact ⟨this, c, rfl, fun w2 g2 os2 => flat_rel hv this⟩

/-- deferred calls are as they are told -/
def CallDOK (P : Program) (call : CallD) : Prop := ∀ f args os ub pn r pn', call f args os ub pn = some (r, pn') → Enters P f ∧ ∀ (B : Nat) (w : World) (g : Gh) (vs : Array Value) (u : FrameMode), B ≤ w.heap.size → RelO B w g os → (∀ t, g.bk (.slot t) = none) → (∀ v c, g.W v c → ∀ k ∈ refs v, k / 64 < ub) → AVRs w g os args vs → PanR pn u →
  CallsD P f vs u w fun e u' w' => Ends B w g r e w' ∧ PanR pn' u' ∧ (u = .returning → u' = .returning)

theorem AVRs.app {l1 l2 : List AV} {v1 v2 : Array Value} (h1 : AVRs w g os l1 v1) (h2 : AVRs w g os l2 v2) : AVRs w g os (l1 ++ l2) (v1 ++ v2) := by
  refine ⟨by simp [h1.1, h2.1], fun j c v hc hv => ?_⟩
  rcases Nat.lt_or_ge j l1.length with hj | hj
  · rw [List.getElem?_append_left hj] at hc
    rw [Array.getElem?_append_left (by rw [h1.1]; exact hj)] at hv
    exact h1.2 j c v hc hv
  · rw [List.getElem?_append_right hj] at hc
    rw [Array.getElem?_append_right (by rw [h1.1]; exact hj), h1.1] at hv
    exact h2.2 _ c v hc hv

theorem resOf_dfr (s : St) (d : List (AV × List AV)) : ∀ rs : List ResultVar, resOf P { s with dfr := d } rs = resOf P s rs
  | [] => rfl
  | .tmp t :: rs => by simp only [resOf, resOf_dfr s d rs]
  | .cell x t :: rs => by simp only [resOf, resOf_dfr s d rs]
theorem result_dfr (s : St) (d : List (AV × List AV)) (fn : Func) : result P fn { s with dfr := d } = result P fn s := by
  simp only [result, resOf_dfr]

theorem leave_ok (hC : CallDOK P callD) {fn : Func} : ∀ (ds : List (AV × List AV)) (s : St) (v : Option AV) (res : Res), leave P callD cx fn ds s v = some res →
    ∀ (w : World) (g : Gh) (a : Act) (u : FrameMode), B ≤ w.heap.size → Rel B w g { s with dfr := ds } a → PanS w g s.os v u → Fr w0 g0 w g → Leaves P fn a.tmps (Ends B w0 g0 res) a.defers u w
  | [], s, none, res, h, w, g, a, u, hB, R, hp, F => by
    have hde : a.defers = [] := List.eq_nil_of_length_eq_zero (by rw [R.dlen]; rfl)
    rw [hde]
    simp only [leave] at h
    split at h
    · rename_i v hv
      cases h
      have hp' : u = .returning := hp
      subst hp'
      have hv' : result P fn { s with dfr := [] } = some v := by rw [result_dfr]; exact hv
      obtain ⟨c, h1, t, h2⟩ := result_rel (P := P) R hv'
      exact ⟨c, h1, g, R.mem, ⟨t, h2⟩, F⟩
    · cases h
  | [], s, some v, res, h, w, g, a, u, hB, R, hp, F => by
    have hde : a.defers = [] := List.eq_nil_of_length_eq_zero (by rw [R.dlen]; rfl)
    rw [hde]
    simp only [leave] at h
    cases h
    obtain ⟨c, rfl, hv⟩ := hp
    exact ⟨g, c, rfl, R.mem, hv, F⟩
  | (fv, args) :: ds, s, v, res, h, w, g, a, u, hB, R, hp, F => by
    cases hde : a.defers with
    | nil => have := R.dlen; rw [hde] at this; simp at this
    | cons d ds' =>
    obtain ⟨f, cap, vs, e1, e2, e3, e4⟩ := R.dfr 0 (fv, args) d rfl (by rw [hde]; rfl)
    simp only at e1
    subst e1
    simp only [leave] at h
    generalize hus : reachU s.os (s.os.length + args.length + cap.length + 1) 0 (addU [] (refss (args ++ cap))) = us at h
    have hnd : us.Nodup := by rw [← hus]; exact reachU_nodup _ _ _ _ (addU_nodup _ _ (by simp))
    split at h
    · rename_i hfl
      have hpr := hp.pan hfl
      split at h
      · rename_i av os0 hren hl
        have Rr : Rel B w g { s with dfr := ds } { tmps := a.tmps, defers := ds' } := by
          refine ⟨R.mem, R.size, R.slots, by have := R.dlen; rw [hde] at this; simpa using this, fun j x d' hx hd => ?_⟩
          exact R.dfr (j + 1) x d' (by simpa using hx) (by rw [hde]; simpa using hd)
        obtain ⟨RL, T1, _⟩ := lend_rel (toIdx_ok us) R.mem hl
        have hwat : ∀ v c, (lentG (toIdx us 0) w g os0).W v c → ∀ k ∈ refs v, k / 64 < us.length := by
          intro v c hv k hk
          obtain ⟨o', ho⟩ := (lentG_W.1 hv).there k hk
          obtain ⟨k0, _, _, e2, _⟩ := (lend_get (toIdx_ok us) hl).2 k o' ho
          obtain ⟨i, _, e3, _, e4⟩ := toIdx_some e2
          omega
        have hargs : AVRs w (lentG (toIdx us 0) w g os0) os0 av (d.args ++ vs) := by
          have := e4.app e3
          refine ⟨by rw [this.1, (rens_get hren).1], fun j v u hv hu => ?_⟩
          obtain ⟨c0, q1, q2⟩ := rens_get' hren j v hv
          exact (this.2 j c0 u q1 hu).tr T1 _ q2
        split at h
        · rename_i r0 os1 v1 hcall
          obtain ⟨hE, hcalls⟩ := hC _ _ _ _ _ _ _ hcall
          split at h
          · rename_i v2 os2 hb
            refine ⟨?_, .func f, vs, f, d.args ++ vs, e2, by rw [e2]; exact run_enter hE _ _, (hcalls B w _ _ u hB RL (fun _ => rfl) hwat hargs hpr).mono fun e u' w' he => ?_⟩
            · rintro rfl; cases v with
              | none => cases hp
              | some v => obtain ⟨_, h, _⟩ := hp; cases h
            obtain ⟨hE, hpan, hret⟩ := he
            cases e with
            | returned c =>
              obtain ⟨gc', RC, ⟨t, hv⟩, FC⟩ := hE
              obtain ⟨⟨g2, R2, F2, _⟩, _⟩ := back_put Rr hnd hl FC RC (c := .tuple #[]) (SVR.of 0 (.tup rfl fun j c v hc => by simp at hc)) hb
              exact leave_ok hC ds _ _ _ h w' g2 _ _ (Nat.le_trans hB F2.size) R2 hpan.settled (F.trans F2)
            | panicked ch => exact hE.elim
            | outgrown => exact hE.elim
          · cases h
        · rename_i t x os1 v1 hcall
          obtain ⟨hE, hcalls⟩ := hC _ _ _ _ _ _ _ hcall
          split at h
          · rename_i hc
            simp only [Bool.and_eq_true, Option.isNone_iff_eq_none] at hc
            obtain ⟨rfl, hfx⟩ := hc
            split at h
            · rename_i v2 os2 hb
              have hu : u = .returning := hp
              subst hu
              refine ⟨(by intro h; cases h), .func f, vs, f, d.args ++ vs, e2, by rw [e2]; exact run_enter hE _ _, (hcalls B w _ _ _ hB RL (fun _ => rfl) hwat hargs hpr).mono fun e u' w' he => ?_⟩
              obtain ⟨hE, hpan, hret⟩ := he
              cases e with
              | returned c => exact hE.elim
              | panicked ch =>
                obtain ⟨gc', c, rfl, RC, hv, FC⟩ := hE
                obtain ⟨⟨g2, R2, F2, _⟩, _⟩ := back_put Rr hnd hl FC RC (c := .tuple #[]) (SVR.of 0 (.tup rfl fun j c v hc => by simp at hc)) hb
                have := hret rfl
                subst this
                refine leave_ok hC ds _ _ _ h w' g2 _ _ (Nat.le_trans hB F2.size) R2 ⟨c, rfl, flat_rel hv (by simpa [flat] using hfx)⟩ (F.trans F2)
              | outgrown => exact hE.elim
            · cases h
          · cases h
        · cases h
      · cases h
    · cases h
end
end Go.Am
namespace Go.Am
variable [Env]
section
variable [Base]
variable {P : Program} {H : Hints} {B : Nat} {w w' w0 : World} {g g' g'' g0 g1 : Gh} {os os' os'' : OS} {s : St} {a : Act}
variable {cx : Cx} {call : CallFn} {callD : CallD} {dr : DrawnFn}
variable {Q : Exit → Act → List Frame → World → Prop} {c₀ : Frame} {cs : List Frame}

/-- what is left of the panic, and where none was none is -/
def MdR (u0 : FrameMode) (pn : Option AV) (u : FrameMode) : Prop := PanR pn u ∧ (u0 = .returning → u = .returning)

/-- what the end of a piece of a deferred function's own body must bring -/
def MeetsS (B : Nat) (w : World) (g : Gh) (u0 : FrameMode) (c₀ : Frame) (cs : List Frame) (Q : Exit → Act → List Frame → World → Prop) : Out × Option AV → Prop
  | (.norm s', pn) => ∀ a' w' g' u, Rel B w' g' s' a' → Fr w g w' g' → B ≤ w'.heap.size → MdR u0 pn u → Q .normal a' ({ c₀ with mode := u } :: cs) w'
  | (.ret s', pn) => ∀ a' w' g' u, Rel B w' g' s' a' → Fr w g w' g' → B ≤ w'.heap.size → MdR u0 pn u → Q .ret a' ({ c₀ with mode := u } :: cs) w'
  | (.exit id s', pn) => ∀ a' w' g' u, Rel B w' g' s' a' → Fr w g w' g' → B ≤ w'.heap.size → MdR u0 pn u → Q (.exit id) a' ({ c₀ with mode := u } :: cs) w'
  | (.pan v s', pn) => ∀ c a' w' g' u, Rel B w' g' s' a' → AVR w' g' s'.os v c → Fr w g w' g' → B ≤ w'.heap.size → MdR u0 pn u → Q (.panic [{ v := c, recovered := false }]) a' ({ c₀ with mode := u } :: cs) w'

theorem MeetsS.after {u0 : FrameMode} {r : Out × Option AV} (h : MeetsS B w g u0 c₀ cs Q r) (F : Fr w g w' g') : MeetsS B w' g' u0 c₀ cs Q r := by
  obtain ⟨r, pn⟩ := r
  cases r with
  | norm s => exact fun a' w2 g2 u R F2 hB => h a' w2 g2 u R (F.trans F2) hB
  | ret s => exact fun a' w2 g2 u R F2 hB => h a' w2 g2 u R (F.trans F2) hB
  | exit id s => exact fun a' w2 g2 u R F2 hB => h a' w2 g2 u R (F.trans F2) hB
  | pan v s => exact fun c a' w2 g2 u R V F2 hB => h c a' w2 g2 u R V (F.trans F2) hB

theorem exec_recover {o : Oper} {args : Array Operand} {ts : Array TypeId} (h : o.op = .call { callee := .builtin .recover, args, argTypes := ts }) : (execOp a.eval o).run P w = .ok .recover w := by
  unfold execOp; rw [h]
  simp [resolve, invoke, builtin]

theorem wpOpsS_of_wp {ops : Array Oper} {i : Nat} {rest : List Nat} {o : Oper} (ho : ops[i]? = some o) (hw : Region.wanted o (yielded ops a.tmps) = true)
    (h : o.wp P a w (fun a' w' => wpOpsS P ops Q rest a' cs w') (fun e a' w' => Q e a' cs w')) : wpOpsS P ops Q (i :: rest) a cs w := by
  unfold Oper.wp at h
  simp only [wpOpsS, ho, hw, if_true]
  split
  · rename_i w' hr
    rw [hr] at h
    exact h.elim
  · exact h

theorem runOpsS_wp {ops : Array Oper} (hC : CallOK P call) {u0 : FrameMode} : ∀ (l : List Oper) (is : List Nat) (s : St) (pn : Option AV) (u : FrameMode) (a : Act) (w : World) (g : Gh) (r : Out × Option AV), is.map (fun i => ops[i]?) = l.map some → B ≤ w.heap.size → Rel B w g s a → MdR u0 pn u →
    runOpsS (stepO P H call cx) ops l s pn = some r → MeetsS B w g u0 c₀ cs Q r → wpOpsS P ops Q is a ({ c₀ with mode := u } :: cs) w
  | [], [], s, pn, u, a, w, g, r, _, hB, R, hm, h, M => by
    simp only [runOpsS] at h; cases h
    exact M a w g u R (Fr.refl w g) hB hm
  | o :: l, i :: is, s, pn, u, a, w, g, r, hi, hB, R, hm, h, M => by
    simp only [List.map_cons, List.cons.injEq] at hi
    obtain ⟨ho, his⟩ := hi
    simp only [runOpsS] at h
    split at h
    · rename_i hw
      have hw' := wanted_rel R hw
      split at h
      · rename_i args ts hop
        have hx := exec_recover (P := P) (a := a) (w := w) hop
        simp only [wpOpsS, ho, hw', if_true, hx]
        split at h
        · rename_i v
          obtain ⟨⟨hf, c, rfl, hv⟩, hret⟩ := hm
          simp only [recoverD]
          refine runOpsS_wp hC l is _ _ (.panicking [{ v := c, recovered := true }]) _ w g r his hB (R.put fun t _ => SVR.of t (hv w g s.os)) ⟨(show PanR none _ from Or.inr ⟨c, rfl⟩), fun h => ?_⟩ h M
          cases hret h
        · have hrec : recoverD ({ c₀ with mode := u } :: cs) = none := by
            rcases hm.1 with rfl | ⟨c, rfl⟩ <;> rfl
          simp only [hrec]
          exact runOpsS_wp hC l is _ _ u _ w g r his hB (R.put fun t _ => SVR.of t (.p (.at rfl))) hm h M
      · split at h
        · rename_i s' hs
          exact wpOpsS_of_wp ho hw' (stepO_wp hB hC R hs fun a' w' g' R' F => runOpsS_wp hC l is s' pn u a' w' g' r his (Nat.le_trans hB F.size) R' hm h (M.after F))
        · rename_i v s' hs
          cases h
          exact wpOpsS_of_wp ho hw' (stepO_wp hB hC R hs fun c w' g' R' V F => M c a w' g' u R' V F (Nat.le_trans hB F.size) hm)
        · cases h
    · rename_i hw
      have hw' := wanted_rel R hw
      simp only [wpOpsS, ho, hw', Bool.false_eq_true, if_false]
      refine runOpsS_wp hC l is _ _ u _ w g r his hB (R.put (v := .tup []) (c := undef) fun t _ => ?_) hm h M
      exact SVR.of t (.tup rfl fun j c v hc => by simp at hc)
    · cases h
  | [], i :: is, _, _, _, _, _, _, _, hi, _, _, _, _, _ => by simp at hi
  | o :: l, [], _, _, _, _, _, _, _, hi, _, _, _, _, _ => by simp at hi

theorem evS_wp (hC : CallOK P call) (n : Nat) {u0 : FrameMode} : ∀ (c : Code) (_ : DrawnOK P dr call cx c) (s : St) (pn : Option AV) (r : Out × Option AV), evS H (stepO P H) dr call n cx c s pn = some r → ∀ (w : World) (g : Gh) (a : Act) (u : FrameMode) (Q : Exit → Act → List Frame → World → Prop), B ≤ w.heap.size → Watch cx g → Rel B w g s a → MdR u0 pn u → MeetsS B w g u0 c₀ cs Q r →
    c.wpS P Q a ({ c₀ with mode := u } :: cs) w := by
  intro c
  have plain : ∀ (c : Code) (_ : DrawnOK P dr call cx c) (s : St) (pn : Option AV) (r : Out × Option AV), withP pn (evC H (stepO P H) dr call n cx c s) = some r → ∀ (w : World) (g : Gh) (a : Act) (u : FrameMode) (Q : Exit → Act → List Frame → World → Prop), B ≤ w.heap.size → Watch cx g → Rel B w g s a → MdR u0 pn u → MeetsS B w g u0 c₀ cs Q r →
      c.wpS P Q a ({ c₀ with mode := u } :: cs) w := by
    intro c hD s pn r h w g a u Q hB hW R hm M
    unfold withP at h
    split at h
    · rename_i r1 hr
      cases h
      refine wpS_of_wp (evC_wp hC n c hD s r1 hr B w g a _ hB hW R ?_)
      cases r1 with
      | norm s => exact fun a' w' g' R' F hB' => M a' w' g' u R' F hB' hm
      | ret s => exact fun a' w' g' R' F hB' => M a' w' g' u R' F hB' hm
      | exit id s => exact fun a' w' g' R' F hB' => M a' w' g' u R' F hB' hm
      | pan v s => exact fun c a' w' g' R' V F hB' => M c a' w' g' u R' V F hB' hm
    · cases h
  induction c with
  | region id ops d =>
    intro hD s pn r h w g a u Q hB hW R hm M
    cases d with
    | true => exact plain _ hD s pn r (by simpa only [evS] using h) w g a u Q hB hW R hm M
    | false =>
      simp only [evS] at h
      refine wpS_region (runOpsS_wp hC ops.toList _ s pn u a w g r ?_ hB R hm h M)
      apply List.ext_getElem?
      intro j
      simp only [List.getElem?_map]
      rcases Nat.lt_or_ge j ops.size with hj | hj
      · rw [List.getElem?_range hj]
        simp [hj]
      · rw [List.getElem?_eq_none (by simpa using hj), List.getElem?_eq_none (by simpa using hj)]
        rfl
  | seq x y ihx ihy =>
    intro hD s pn r h w g a u Q hB hW R hm M
    simp only [evS] at h
    refine wpS_seq ?_
    split at h
    · rename_i s1 pn1 hx
      refine ihx hD.1 s pn _ hx w g a u _ hB hW R hm fun a' w' g' u' R' F hB' hm' => ?_
      exact ihy hD.2 s1 pn1 r h w' { g' with W := g.W } a' u' Q hB' hW (R'.rew F.watch) hm' (M.after F.rew)
    · rename_i r' hne
      refine ihx hD.1 s pn r h w g a u _ hB hW R hm ?_
      obtain ⟨r, pn'⟩ := r
      cases r with
      | norm s1 => exact absurd h (hne s1 pn')
      | ret s1 => exact M
      | exit id s1 => exact M
      | pan v s1 => exact M
  | _ => intro hD s pn r h; exact plain _ hD s pn r (by simpa only [evS] using h)
end
end Go.Am
namespace Go.Am
variable [Env]
section
variable [Base]
variable {P : Program} {H : Hints} {B : Nat} {w w' w0 : World} {g g' g'' g0 g1 : Gh} {os os' os'' : OS} {s : St} {a : Act}
variable {cx : Cx} {call : CallFn} {callD : CallD} {dr : DrawnFn} {prim : FuncId → Option CallFn}

/-- a function that is told by hand is as it is told -/
def PrimOK (P : Program) (f : FuncId) (call : CallFn) : Prop := ∀ args os ub r, call f args os ub = some r → ∀ (B : Nat) (w : World) (g : Gh) (vs : Array Value), B ≤ w.heap.size → RelO B w g os → (∀ t, g.bk (.slot t) = none) → (∀ v c, g.W v c → ∀ k ∈ refs v, k / 64 < ub) → AVRs w g os args vs →
  Calls P f vs w (Ends B w g r)

theorem fn_ok (hC : CallOK P call) (hCD : CallDOK P callD) {f : FuncId} {fn : Func} {c : Code} {ub n : Nat} {args : List AV} {vs : Array Value} {r : Out} {res : Res} (hf : P.funcs[f]? = some fn) (hb : fn.body = some c) (hD : DrawnOK P dr call ⟨f, ub⟩ c)
    (hB : B ≤ w.heap.size) (R : RelO B w g os) (hs : ∀ t, g.bk (.slot t) = none) (hW : ∀ v c, g.W v c → ∀ k ∈ refs v, k / 64 < ub) (hv : AVRs w g os args vs)
    (h : evC H (stepO P H) dr call n ⟨f, ub⟩ c (first fn args os) = some r)
    (hr : match r with
      | .norm s | .ret s => leave P callD ⟨f, ub⟩ fn s.dfr s none = some res
      | .pan v s => leave P callD ⟨f, ub⟩ fn s.dfr s (some v) = some res
      | .exit _ _ => False) : Calls P f vs w (Ends B w g res) := by
  refine calls_of_wp_defers hf hb ?_
  refine evC_wp hC n c hD _ r h B w g _ _ hB hW (entry_rel R hs hv fn) ?_
  cases r with
  | norm s => exact fun a' w' g' R' F hB' => leave_ok hCD s.dfr s none res hr w' g' a' _ hB' R' rfl F
  | ret s => exact fun a' w' g' R' F hB' => leave_ok hCD s.dfr s none res hr w' g' a' _ hB' R' rfl F
  | exit id s => exact hr.elim
  | pan v s => exact fun c a' w' g' R' V F hB' => leave_ok hCD s.dfr s (some v) res hr w' g' a' _ hB' R' ⟨c, rfl, V⟩ F

theorem fnD_ok (hC : CallOK P call) {f : FuncId} {fn : Func} {c : Code} {ub n : Nat} {args : List AV} {vs : Array Value} {r : Out} {pn pn' : Option AV} {res : Res} {u : FrameMode} (hf : P.funcs[f]? = some fn) (hb : fn.body = some c) (hD : DrawnOK P dr call ⟨f, ub⟩ c)
    (hB : B ≤ w.heap.size) (R : RelO B w g os) (hs : ∀ t, g.bk (.slot t) = none) (hW : ∀ v c, g.W v c → ∀ k ∈ refs v, k / 64 < ub) (hv : AVRs w g os args vs) (hp : PanR pn u)
    (h : evS H (stepO P H) dr call n ⟨f, ub⟩ c (first fn args os) pn = some (r, pn'))
    (hr : match r with
      | .norm s | .ret s => s.dfr = [] ∧ ∃ v, result P fn s = some v ∧ res = .ret v s.os
      | .pan v s => s.dfr = [] ∧ res = .pan v s.os
      | .exit _ _ => False) : CallsD P f vs u w fun e u' w' => Ends B w g res e w' ∧ PanR pn' u' ∧ (u = .returning → u' = .returning) := by
  refine callsD_of_wpS hf hb fun c₀ cs hc => ?_
  have hc' : c₀ = { c₀ with mode := u } := by subst hc; rfl
  rw [hc']
  refine evS_wp hC n c hD _ pn (r, pn') h w g _ u _ hB hW (entry_rel R hs hv fn) ⟨hp, fun h => h⟩ ?_
  have done : ∀ (s : St), (s.dfr = [] ∧ ∃ v, result P fn s = some v ∧ res = .ret v s.os) → ∀ a' w' g' u', Rel B w' g' s a' → Fr w g w' g' → MdR u pn' u' → a'.defers = [] ∧ ∃ u'', ({ c₀ with mode := u' } :: cs : List Frame) = { { c₀ with mode := u } with mode := u'' } :: cs ∧ ∃ v, (results fn a'.tmps).run P w' = .ok v w' ∧ Ends B w g res (.returned v) w' ∧ PanR pn' u'' ∧ (u = .returning → u'' = .returning) := by
    rintro s ⟨hd, v, hv, rfl⟩ a' w' g' u' R' F hm
    have hde : a'.defers = [] := List.eq_nil_of_length_eq_zero (by rw [R'.dlen, hd]; rfl)
    obtain ⟨c, h1, t, h2⟩ := result_rel (P := P) R' hv
    exact ⟨hde, u', rfl, c, h1, ⟨g', R'.mem, ⟨t, h2⟩, F⟩, hm⟩
  cases r with
  | norm s => exact fun a' w' g' u' R' F _ hm => done s hr a' w' g' u' R' F hm
  | ret s => exact fun a' w' g' u' R' F _ hm => done s hr a' w' g' u' R' F hm
  | exit id s => exact hr.elim
  | pan v s =>
    obtain ⟨hd, rfl⟩ := hr
    intro c a' w' g' u' R' V F _ hm
    have hde : a'.defers = [] := List.eq_nil_of_length_eq_zero (by rw [R'.dlen, hd]; rfl)
    exact ⟨hde, u', rfl, ⟨g', c, rfl, R'.mem, V, F⟩, hm⟩

/-- the machine is sound -/
theorem evG_ok (hE : ∀ (f : FuncId) (fn : Func), P.funcs[f]? = some fn → fn.name ≠ "runtime.NumGoroutine") (hD : ∀ call, CallOK P call → ∀ (f : FuncId) (fn : Func) (c : Code), P.funcs[f]? = some fn → fn.body = some c → ∀ ub, DrawnOK P dr call ⟨f, ub⟩ c) (hP : ∀ f g, prim f = some g → PrimOK P f g) :
    ∀ n, CallOK P (fun f args os ub => resOnly (evG P H (stepO P H) dr prim n f args os ub none)) ∧ CallDOK P (fun f args os ub pn => evG P H (stepO P H) dr prim n f args os ub (some pn)) := by
  intro n
  induction n with
  | zero => exact ⟨fun f args os ub r h => by simp [evG, resOnly] at h, fun f args os ub pn r pn' h => by simp [evG] at h⟩
  | succ n ih =>
    obtain ⟨hC, hCD⟩ := ih
    constructor
    · intro f args os ub r h
      simp only [evG] at h
      cases hf : P.funcs[f]? with
      | none => rw [hf] at h; cases h
      | some fn =>
      rw [hf] at h
      simp only at h
      cases hb : fn.body with
      | none => rw [hb] at h; cases h
      | some c =>
      rw [hb] at h
      simp only at h
      refine ⟨⟨fn, hf, by rw [hb]; rfl, hE f fn hf⟩, fun B w g vs hB R hs hW hv => ?_⟩
      cases hp : primE prim f args os ub with
      | some r1 =>
        rw [hp] at h
        cases h
        unfold primE at hp
        cases hpf : prim f with
        | none => rw [hpf] at hp; cases hp
        | some gp =>
          rw [hpf] at hp
          exact hP f gp hpf args os ub _ hp B w g vs hB R hs hW hv
      | none =>
        rw [hp] at h
        simp only at h
        cases hr : evC H (stepO P H) dr (fun f args os ub => resOnly (evG P H (stepO P H) dr prim n f args os ub none)) n ⟨f, ub⟩ c (first fn args os) with
        | none => rw [hr] at h; cases h
        | some o =>
          rw [hr] at h
          cases o with
          | norm s =>
            simp only at h
            cases hl : leave P (fun f args os ub pn => evG P H (stepO P H) dr prim n f args os ub (some pn)) ⟨f, ub⟩ fn s.dfr s none with
            | none => rw [hl] at h; cases h
            | some r1 => rw [hl] at h; cases h; exact fn_ok hC hCD hf hb (hD _ hC _ _ _ hf hb _) hB R hs hW hv hr hl
          | ret s =>
            simp only at h
            cases hl : leave P (fun f args os ub pn => evG P H (stepO P H) dr prim n f args os ub (some pn)) ⟨f, ub⟩ fn s.dfr s none with
            | none => rw [hl] at h; cases h
            | some r1 => rw [hl] at h; cases h; exact fn_ok hC hCD hf hb (hD _ hC _ _ _ hf hb _) hB R hs hW hv hr hl
          | pan v s =>
            simp only at h
            cases hl : leave P (fun f args os ub pn => evG P H (stepO P H) dr prim n f args os ub (some pn)) ⟨f, ub⟩ fn s.dfr s (some v) with
            | none => rw [hl] at h; cases h
            | some r1 => rw [hl] at h; cases h; exact fn_ok hC hCD hf hb (hD _ hC _ _ _ hf hb _) hB R hs hW hv hr hl
          | exit id s => cases h
    · intro f args os ub pn r pn' h
      simp only [evG] at h
      cases hf : P.funcs[f]? with
      | none => rw [hf] at h; cases h
      | some fn =>
      rw [hf] at h
      simp only at h
      cases hb : fn.body with
      | none => rw [hb] at h; cases h
      | some c =>
      rw [hb] at h
      simp only at h
      refine ⟨⟨fn, hf, by rw [hb]; rfl, hE f fn hf⟩, fun B w g vs u hB R hs hW hv hp => ?_⟩
      cases hr : evS H (stepO P H) dr (fun f args os ub => resOnly (evG P H (stepO P H) dr prim n f args os ub none)) n ⟨f, ub⟩ c (first fn args os) pn with
      | none => rw [hr] at h; cases h
      | some o =>
        rw [hr] at h
        obtain ⟨o, pn1⟩ := o
        cases o with
        | norm s =>
          simp only at h
          split at h
          · rename_i hd
            split at h
            · rename_i v hv'
              cases h
              exact fnD_ok hC hf hb (hD _ hC _ _ _ hf hb _) hB R hs hW hv hp hr ⟨by simpa using hd, v, hv', rfl⟩
            · cases h
          · cases h
        | ret s =>
          simp only at h
          split at h
          · rename_i hd
            split at h
            · rename_i v hv'
              cases h
              exact fnD_ok hC hf hb (hD _ hC _ _ _ hf hb _) hB R hs hW hv hp hr ⟨by simpa using hd, v, hv', rfl⟩
            · cases h
          · cases h
        | pan v s =>
          simp only at h
          split at h
          · rename_i hd
            cases h
            exact fnD_ok hC hf hb (hD _ hC _ _ _ hf hb _) hB R hs hW hv hp hr ⟨by simpa using hd, rfl⟩
          · cases h
        | exit id s => cases h

theorem evF_ok (hE : ∀ (f : FuncId) (fn : Func), P.funcs[f]? = some fn → fn.name ≠ "runtime.NumGoroutine") (hD : ∀ call, CallOK P call → ∀ (f : FuncId) (fn : Func) (c : Code), P.funcs[f]? = some fn → fn.body = some c → ∀ ub, DrawnOK P dr call ⟨f, ub⟩ c) (hP : ∀ f g, prim f = some g → PrimOK P f g) (n : Nat) : CallOK P (evF P H (stepO P H) dr prim n) :=
  (evG_ok hE hD hP n).1
end
end Go.Am
