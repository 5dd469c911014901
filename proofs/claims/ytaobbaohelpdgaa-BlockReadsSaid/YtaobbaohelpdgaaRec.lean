import Derived.Test.YtaobbaohelpdgaaPan
namespace Go.Proofs.Ytaobbaohelpdgaa
open Go.RowKit
section
variable {P : Program} {w : World} {f : FuncId} {fn : Func} {c : Code} {args : Array Value} {n : Nat}
theorem fl_enterD {u u' : FrameMode} {V : Value} {R : Ending → World → Prop} {t0 : Nat} {id : Nat} {ts : Array TypeId} {ty : TypeId} {pos : String} {after : Array Edge}
    (hV : ∀ (c₀ : Frame) (cs : List Frame), c₀.mode = u → recoverD (c₀ :: cs) = some (V, { c₀ with mode := u' } :: cs) ∨ (recoverD (c₀ :: cs) = none ∧ V = .nilIface ∧ u' = u))
    (hf : P.funcs[f]? = some fn) (hb : fn.body = some (.seq (.region id ([⟨some t0, .call ⟨.builtin .recover, #[], ts⟩, ty, pos, after, none⟩] : List Oper).toArray false) c)) (hn : fn.ntmps = n) (ha : args.size ≤ n) (ht : t0 < n)
    (h : ∀ (a : Act) (Q : Exit → Act → World → Prop), a.defers = [] → a.tmps.size = n → (∀ t v, t ≠ t0 → args[t]? = some v → a.eval (.tmp t) = v) → a.eval (.tmp t0) = V →
      (∀ e a' w' v, e = Exit.ret ∨ e = Exit.normal → a'.defers = [] → (results fn a'.tmps).run P w' = .ok v w' → R (.returned v) w' → Q e a' w') → c.wpIn (RF none) 0 P Q a w) :
    CallsD P f args u w fun e u2 w' => u2 = u' ∧ R e w' := by
  refine callsD_of_wpS hf hb fun c₀ cs hu => wpS_seq (wpS_region ?_)
  have hgo : (c.wpS P (bodyPostS P fn c₀ cs fun e u2 w' => u2 = u' ∧ R e w') (({ tmps := args ++ Array.replicate (fn.ntmps - args.size) undef, defers := [] } : Act).put (some t0) V) ({ c₀ with mode := u' } :: cs) w) := by
    refine wpS_of_wp ((wpIn_wide (n := 0)).1 (h _ _ (by rfl) (by simp [Act.put, hn]; omega) ?_ ?_ ?_))
    · intro t v hne hv
      show (({ tmps := args ++ Array.replicate (fn.ntmps - args.size) undef, defers := [] } : Act).put (some t0) V).tmps.getD t undef = v
      have hlt : t < args.size := (Array.getElem?_eq_some_iff.1 hv).1
      rw [put_getD (by simp [hn]; omega), if_neg hne]
      show (args ++ Array.replicate (fn.ntmps - args.size) undef).getD t undef = v
      rw [Array.getD_eq_getD_getElem?, Array.getElem?_append_left hlt, hv]
      rfl
    · show (({ tmps := args ++ Array.replicate (fn.ntmps - args.size) undef, defers := [] } : Act).put (some t0) V).tmps.getD t0 undef = V
      rw [put_getD (by simp [hn]; omega), if_pos rfl]
    · intro e a' w' v he hd hr hR
      rcases he with rfl | rfl
      · exact ⟨hd, u', rfl, v, hr, rfl, hR⟩
      · exact ⟨hd, u', rfl, v, hr, rfl, hR⟩
  show wpOpsS P _ _ [0] _ _ _
  have hex : ∀ a : Act, (execOp a.eval ⟨some t0, .call ⟨.builtin .recover, #[], ts⟩, ty, pos, after, none⟩).run P w = .ok .recover w := fun a => rfl
  unfold wpOpsS
  simp only [List.getElem?_toArray, List.getElem?_cons_zero, Region.wanted, if_true, hex]
  rcases hV c₀ cs hu with h1 | ⟨h1, rfl, rfl⟩
  · rw [h1]
    exact hgo
  · rw [h1]
    have : ({ c₀ with mode := u' } : Frame) = c₀ := by subst hu; rfl
    rw [this] at hgo
    exact hgo
theorem rec_nil : ∀ (c₀ : Frame) (cs : List Frame), c₀.mode = .returning → recoverD (c₀ :: cs) = some (Value.nilIface, { c₀ with mode := .returning } :: cs) ∨ (recoverD (c₀ :: cs) = none ∧ Value.nilIface = .nilIface ∧ FrameMode.returning = .returning) := by
  intro c₀ cs h
  exact .inr ⟨by simp only [recoverD, h], rfl, rfl⟩
theorem rec_stop (v : Value) : ∀ (c₀ : Frame) (cs : List Frame), c₀.mode = .panicking (pE v) → recoverD (c₀ :: cs) = some (v, { c₀ with mode := .panicking [{ v, recovered := true }] } :: cs) ∨ (recoverD (c₀ :: cs) = none ∧ v = .nilIface ∧ FrameMode.panicking [{ v, recovered := true }] = .panicking (pE v)) := by
  intro c₀ cs h
  exact .inl (by simp only [recoverD, h, pE])
theorem fl_enterR {R : Ending → World → Prop} (hf : P.funcs[f]? = some fn) (hb : fn.body = some c) (hn : fn.ntmps = n) (ha : args.size ≤ n)
    (h : ∀ (a : Act) (Q : Exit → Act → World → Prop), a.defers = [] → a.tmps.size = n → (∀ t v, args[t]? = some v → a.eval (.tmp t) = v) →
      (∀ e a' w', e = Exit.ret ∨ e = Exit.normal → Leaves P fn a'.tmps R a'.defers .returning w' → Q e a' w') →
      (∀ a' w' ch, Leaves P fn a'.tmps R a'.defers (.panicking ch) w' → Q (.panic ch) a' w') → c.wpIn (RF none) 0 P Q a w) : Calls P f args w R := by
  refine calls_of_wp_defers hf hb ((wpIn_wide (n := 0)).1 (h _ _ rfl (by simp [hn]; omega) ?_ ?_ ?_))
  · intro t v hv
    show (args ++ Array.replicate (fn.ntmps - args.size) undef).getD t undef = v
    have hlt : t < args.size := (Array.getElem?_eq_some_iff.1 hv).1
    rw [Array.getD_eq_getD_getElem?, Array.getElem?_append_left hlt, hv]
    rfl
  · intro e a' w' he hl
    rcases he with rfl | rfl <;> exact hl
  · intro a' w' ch hl
    exact hl
theorem rg_defer_seq {y : Code} {Q : Exit → Act → World → Prop} {a : Act} {id d0 : Nat} {cap : Array Operand} {vs : Array Value} {ts : Array TypeId} {ty ty2 : TypeId} {pos pos2 : String} {af af2 : Array Edge}
    (hcap : cap.map a.eval = vs) (hd : a.defers = []) (hz : a.tmps.size = n) (h0 : d0 < n)
    (h : ∀ a' : Act, a'.defers = [{ target := .fn (.func f) vs, args := #[] }] → a'.tmps.size = n → (∀ t, t ≠ d0 → a'.eval (.tmp t) = a.eval (.tmp t)) → y.wpIn (RF none) 0 P Q a' w) :
    (Code.seq (Code.region id ([⟨some d0, .makeFunc (.func f) #[] cap, ty, pos, af, none⟩, ⟨none, .defer ⟨.value (.tmp d0), #[], ts⟩, ty2, pos2, af2, none⟩] : List Oper).toArray false) y).wpIn (RF none) 0 P Q a w := by
  refine wpIn_seq (wpIn_region ?_)
  show wpOpsIn (RF none) 0 P _ _ [0, 1] a w
  rw [wpOpsIn_cons]
  have e1 : (execOp a.eval ⟨some d0, .makeFunc (.func f) #[] cap, ty, pos, af, none⟩).run P w = .ok (.value (.func (.func f) #[] vs)) w := by
    rw [← hcap]
    simp [execOp, Instr.makeFunc, Sem.run_bind]
  have hp : (a.put (some d0) (.func (.func f) #[] vs)).eval (.tmp d0) = .func (.func f) #[] vs := by
    show (a.put (some d0) _).tmps.getD d0 undef = _
    rw [put_getD (by rw [hz]; exact h0), if_pos rfl]
  have e2 : (execOp (a.put (some d0) (.func (.func f) #[] vs)).eval ⟨none, .defer ⟨.value (.tmp d0), #[], ts⟩, ty2, pos2, af2, none⟩).run P w = .ok (.defer { target := .fn (.func f) vs, args := #[] }) w := by
    simp only [execOp, resolve, hp, Deferred.ofValue]
    simp [Sem.run_bind]
  have s1 : ∀ (o : Oper) (ev : Operand → Value), Oper.semAt (RF none).round ev o = execOp ev o := fun _ _ => rfl
  have w1 : ∀ (o : Oper), o.guard = none → ∀ y, Region.wanted o y = true := fun o ho y => by simp [Region.wanted, ho]
  show wpOpIn (RF none) 0 P _ _ 0 _ a w
  unfold wpOpIn
  simp only [List.getElem?_toArray, List.getElem?_cons_zero]
  rw [if_pos (w1 _ rfl _)]
  unfold Oper.wpIn
  refine ⟨fun _ _ => trivial, ?_⟩
  rw [s1, e1]
  simp only [Oper.uponIn]
  rw [wpOpsIn_cons]
  unfold wpOpIn
  simp only [List.getElem?_toArray, List.getElem?_cons_zero, List.getElem?_cons_succ]
  rw [if_pos (w1 _ rfl _)]
  unfold Oper.wpIn
  refine ⟨fun _ _ => trivial, ?_⟩
  rw [s1, e2]
  simp only [Oper.uponIn]
  show y.wpIn (RF none) 0 P Q _ w
  refine h _ ?_ ?_ ?_
  · show _ :: (a.put _ _).defers = _
    rw [put_defers, hd]
  · show (a.put _ _).tmps.size = n
    rw [put_size, hz]
  · intro t ht
    show (a.put _ _).tmps.getD t undef = a.tmps.getD t undef
    rw [put_getD (by rw [hz]; exact h0), if_neg ht]
theorem leaves1_ret {tmps vs : Array Value} {R : Ending → World → Prop} {S : World → Prop} (hi : CF P f) (hclo : CallsD P f vs .returning w fun e u' w' => u' = .returning ∧ (∃ x, e = .returned x) ∧ S w')
    (hfin : ∀ w', S w' → ∃ v, (results fn tmps).run P w' = .ok v w' ∧ R (.returned v) w') : Leaves P fn tmps R [{ target := .fn (.func f) vs, args := #[] }] .returning w := by
  refine leaves_cons (by simp) (args := vs) (f := f) ?_ (hclo.mono ?_)
  · simp [invoke, Sem.run_bind, hi vs w]
  · rintro e u' w' ⟨rfl, ⟨x, rfl⟩, hS⟩
    exact hfin w' hS
theorem leaves1_pan {tmps vs : Array Value} {R : Ending → World → Prop} {S : World → Prop} {v : Value} (hi : CF P f) (hclo : CallsD P f vs (.panicking (pE v)) w fun e u' w' => u' = .panicking [{ v, recovered := true }] ∧ (∃ x, e = .returned x) ∧ S w')
    (hfin : ∀ w', S w' → ∃ v, (results fn tmps).run P w' = .ok v w' ∧ R (.returned v) w') : Leaves P fn tmps R [{ target := .fn (.func f) vs, args := #[] }] (.panicking (pE v)) w := by
  refine leaves_cons (by simp) (args := vs) (f := f) ?_ (hclo.mono ?_)
  · simp [invoke, Sem.run_bind, hi vs w]
  · rintro e u' w' ⟨rfl, ⟨x, rfl⟩, hS⟩
    exact hfin w' hS
theorem leaves1_ret0 {tmps vs : Array Value} {R : Ending → World → Prop} {V : Value} (hi : CF P f) (hclo : CallsD P f vs .returning w fun e u2 w' => u2 = .returning ∧ ∃ own' : Own, e = .returned V ∧ Evo [] (fun _ => 0) own' w w')
    (hfin : ∀ w' own', Evo [] (fun _ => 0) own' w w' → ∃ v, (results fn tmps).run P w' = .ok v w' ∧ R (.returned v) w') : Leaves P fn tmps R [{ target := .fn (.func f) vs, args := #[] }] .returning w :=
  leaves1_ret (S := fun w' => ∃ own' : Own, Evo [] (fun _ => 0) own' w w') hi (hclo.mono fun _ _ _ ⟨h1, own', h2, h3⟩ => ⟨h1, ⟨_, h2⟩, own', h3⟩) (fun w' ⟨own', h⟩ => hfin w' own' h)
theorem leaves1_panM {tmps vs : Array Value} {R : Ending → World → Prop} {v V : Value} {β : Type} {q : β → Own → World → Prop} {own0 : Own} {K : List Nat} (hi : CF P f) (hclo : CallsD P f vs (.panicking (pE v)) w fun e u2 w' => u2 = .panicking [{ v := v, recovered := true }] ∧ ∃ (own' : Own) (x : β), e = .returned V ∧ Evo K own0 own' w w' ∧ q x own' w')
    (hfin : ∀ w' own' x, Evo K own0 own' w w' → q x own' w' → ∃ v, (results fn tmps).run P w' = .ok v w' ∧ R (.returned v) w') : Leaves P fn tmps R [{ target := .fn (.func f) vs, args := #[] }] (.panicking (pE v)) w :=
  leaves1_pan (S := fun w' => ∃ own' x, Evo K own0 own' w w' ∧ q x own' w') hi (hclo.mono fun _ _ _ ⟨h1, own', x, h2, h3⟩ => ⟨h1, ⟨_, h2⟩, own', x, h3⟩) (fun w' ⟨own', x, h, hq⟩ => hfin w' own' x h hq)
end
end Go.Proofs.Ytaobbaohelpdgaa
