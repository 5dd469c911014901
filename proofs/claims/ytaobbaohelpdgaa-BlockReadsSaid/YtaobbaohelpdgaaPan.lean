import Derived.Test.YtaobbaohelpdgaaClip
import Derived.Recover
namespace Go.Proofs.Ytaobbaohelpdgaa
open Go.RowKit
theorem rngO_cases {S D Z : Type} {o : Option (S ⊕ D)} {k1 : S → Option Z} {k2 : D → Option Z} {z : Z} {g : Prop} (h : rngO o k1 k2 = some z) (h2 : ∀ e, o = some (.inr e) → k2 e = some z → g) (h1 : ∀ x, o = some (.inl x) → k1 x = some z → g) : g := by
  obtain ⟨x, e, hx⟩ := rngO_some h
  cases x with
  | inl x => exact h1 x e hx
  | inr x => exact h2 x e hx
abbrev pE (v : Value) : List PanicEntry := [{ v, recovered := false }]
abbrev dN : OpD := ⟨[], [], [], Fct.any⟩
def OpP (P : Program) (o : Oper) (a : Act) (w : World) (ch : List PanicEntry) (S : World → Prop) : Prop :=
  o.wp P a w (fun _ _ => False) (fun e a' w' => e = .panic ch ∧ a' = a ∧ S w')
section
variable {P : Program} {ops : List Oper} {ds : List OpD} {rs : List Fct} {a0 : Act} {w0 : World} {own0 : Own} {n : Nat} {bs K : List Nat} {Q : Exit → Act → World → Prop} {dl : List Deferred} {ch : List PanicEntry}
theorem opP_in {o : Oper} {a : Act} {w : World} {S : World → Prop} {nx : Act → World → Prop} (h : OpP P o a w ch S) (hQ : ∀ w', S w' → Q (.panic ch) a w') : o.wpIn (RF none) 0 P a w nx Q := by
  unfold Oper.wpIn
  refine ⟨fun _ _ => trivial, ?_⟩
  have hs : o.semAt (RF none).round a.eval = execOp a.eval o := rfl
  rw [hs]
  unfold OpP Oper.wp at h
  generalize (execOp a.eval o).run P w = x at *
  cases x with
  | ok n w' =>
    cases n with
    | value v => exact h.elim
    | skip => exact h.elim
    | defer d => exact h.elim
    | enter f args =>
      refine ⟨fun hd => by simp [RF, Fence.wide] at hd, ?_⟩
      have h1 : Calls P f args w' _ := h
      exact CallsIn.mono (F := RF none) (callsIn_wide.2 h1 : CallsIn Fence.wide _ P f args w' _) (fun e w'' he => by
        cases e with
        | returned v => exact he.elim
        | panicked c =>
          obtain ⟨h2, _, h3⟩ := he
          injection h2 with h2
          subst h2
          exact hQ w'' h3
        | outgrown =>
          obtain ⟨_, _, h2, _⟩ := he
          cases h2)
    | row row args =>
      refine ⟨fun hd => by simp [RF, Fence.wide] at hd, ?_⟩
      have h1 : Rows P row args w' _ := h
      exact fun c cs _ => let ⟨v, w'', hR, hs⟩ := h1 c cs; hR.elim
    | _ => exact h.elim
  | halt x w' =>
    cases x with
    | panic v =>
      have h1 : Exit.panic [{ v, recovered := false }] = .panic ch ∧ a = a ∧ S w' := h
      obtain ⟨h2, _, h3⟩ := h1
      injection h2 with h2
      show Q (.panic [{ v, recovered := false }]) a w'
      rw [h2]
      exact hQ w' h3
    | _ => exact h.elim
theorem rg_facts (hc : rgCheck n ops ds rs bs K = true) {k : Nat} {o : Oper} {D : Nat → Bool} {own : Own} {a : Act} {w : World} (hI : RI dl K ops ds rs a0 w0 own0 n D own a w) (ho : ops[k]? = some o) (hk : D k = false)
    (hp : ∀ e ∈ o.after, Region.binds .any e = true → D e.on = true) {d : OpD} (hd : ds[k]? = some d) : FactsAt ds rs own a w d.reads ∧ SlotsAt a0 a d.slots := by
  simp only [rgCheck, Bool.and_eq_true] at hc
  obtain ⟨⟨⟨⟨⟨⟨hb, hnt⟩, hwn⟩, hds⟩, hrs⟩, hlen⟩, hKK⟩ := hc
  have hlen := Nat.eq_of_beq_eq_true hlen
  obtain ⟨hrd, hsl, hdep⟩ := dsOk_spec hds hd
  rw [Nat.zero_add] at hrd hsl hdep
  have hdesc : ∀ p, p < ops.length → (bs.getD p 0).testBit k = true → D p = false := by
    intro p hpN hpk
    cases hDp : D p with
    | false => rfl
    | true =>
      exfalso
      obtain ⟨op, hop⟩ : ∃ op, ops[p]? = some op := ⟨ops[p], List.getElem?_eq_getElem hpN⟩
      have := anc_done hb hI.clo p op hop (hI.clo p op hop hDp) k hpk
      rw [hk] at this; cases this
  have hanc := anc_done hb hI.clo k o ho hp
  constructor
  · have : ∀ l : List Nat, (∀ j ∈ l, canRead ops.length bs (killers ds 0) (fAt ds rs j).labs k j = true) → FactsAt ds rs own a w l := by
      intro l
      induction l with
      | nil => intro _; trivial
      | cons j r ih =>
        intro h
        refine ⟨?_, ih fun j' h' => h j' (by simp [h'])⟩
        have hj := h j (by simp)
        simp only [canRead, Bool.and_eq_true, Bool.or_eq_true] at hj
        refine hI.fact j ?_ ?_
        · rcases hj.1 with h1 | h1
          · exact .inl (Nat.le_of_ble_eq_true h1)
          · exact .inr (hanc j h1)
        · intro i hi
          have hiN := hI.dom i hi
          obtain ⟨di, hdi⟩ : ∃ di, ds[i]? = some di := ⟨ds[i]'(by omega), List.getElem?_eq_getElem (by omega)⟩
          rw [kAt_lt hdi]
          cases hhit : hits di.kills (fAt ds rs j).labs with
          | false => rfl
          | true =>
            exfalso
            have hne : di.kills ≠ [] := by intro e; rw [e] at hhit; simp [hits] at hhit
            have hm := killers_mem (k := 0) hdi hne
            rw [Nat.zero_add] at hm
            have h2 := List.all_eq_true.1 hj.2 _ hm
            rw [hhit] at h2
            simp at h2
            rcases h2 with h2 | h2
            · rw [h2] at hi; rw [hk] at hi; cases hi
            · have := hdesc i hiN (by simpa using h2)
              rw [hi] at this; cases this
    exact this _ hrd
  · have : ∀ l : List Nat, (∀ t ∈ l, canSlot bs (writersOf ops 0) k t = true) → SlotsAt a0 a l := by
      intro l
      induction l with
      | nil => intro _; trivial
      | cons t r ih =>
        intro h
        refine ⟨?_, ih fun j' h' => h j' (by simp [h'])⟩
        have hj := h t (by simp)
        refine hI.keep t fun i hi => ?_
        have h2 := List.all_eq_true.1 hj (i, t) hi
        simp at h2
        obtain ⟨oi, _, hoi, _⟩ := writers_mem.1 hi
        rw [Nat.sub_zero] at hoi
        have hiN : i < ops.length := by
          rcases Nat.lt_or_ge i ops.length with h | h
          · exact h
          · rw [List.getElem?_eq_none h] at hoi; cases hoi
        rcases h2 with h2 | h2
        · rw [h2]; exact hk
        · exact hdesc i hiN (by simpa using h2)
    exact this _ hsl
def PanOk (P : Program) (K : List Nat) (ds : List OpD) (rs : List Fct) (a0 : Act) (w0 : World) (own0 : Own) (ch : List PanicEntry) (o : Oper) (d : OpD) : Prop :=
  ∀ own a w, FactsAt ds rs own a w d.reads → SlotsAt a0 a d.slots → Evo K own0 own w0 w → OpP P o a w ch (fun w' => ∃ own', Evo d.kills own own' w w')
theorem wpOpsF_pan {k : Nat} {o : Oper} {d : OpD} (hc : rgCheck n ops ds rs bs K = true) (hst : Steps none P K ops ds rs a0 w0 own0 (ops.take k) (ds.take k)) (ho : ops[k]? = some o) (hg : o.guard = none) (hd : ds[k]? = some d)
    (hp : PanOk P K ds rs a0 w0 own0 ch o d) (hfin : ∀ own a w, a.defers = dl → a.tmps.size = n → (∀ t, ((writersOf ops 0).all fun p => !Nat.beq p.2 t) = true → a.eval (.tmp t) = a0.eval (.tmp t)) → Evo K own0 own w0 w → Q (.panic ch) a w) :
    ∀ m' i, i + m' = ops.length → i ≤ k → ∀ own a w, RI dl K ops ds rs a0 w0 own0 n (fun j => decide (j < i)) own a w → wpOpsIn (RF none) 0 P ops.toArray Q (List.range' i m') a w := by
  intro m'
  have hkl : k < ops.length := (List.getElem?_eq_some_iff.1 ho).1
  have hc' := hc
  simp only [rgCheck, Bool.and_eq_true] at hc'
  obtain ⟨⟨⟨⟨⟨⟨hb, _⟩, _⟩, _⟩, _⟩, _⟩, hKK⟩ := hc'
  induction m' with
  | zero => intro i hi hk; omega
  | succ m' ih =>
    intro i hi hik own a w hI
    rw [List.range'_succ, wpOpsIn_cons]
    have hil : i < ops.length := by omega
    rcases Nat.lt_or_ge i k with h1 | h1
    · have hoi : ops[i]? = some ops[i] := List.getElem?_eq_getElem hil
      have h2 := (bsOk_spec hb hoi).2
      refine wpOpIn_mono ?_ (rg_step (D' := fun j => decide (j < i + 1)) hc (fun d' hd' => steps_get hst (i := i) (by rw [List.getElem?_take, if_pos h1]; exact hoi) (by rw [List.getElem?_take, if_pos h1]; exact hd')) hI hoi (by simp) (fun e he hbe => by have := h2 e he hbe; simpa using this) fun j => ?_)
      · rintro a' w' ⟨own', hI'⟩
        exact ih (i + 1) (by omega) (by omega) own' a' w' hI'
      · by_cases hji : j = i
        · simp [hji]
        · rw [if_neg hji]
          have : (j < i + 1) ↔ (j < i) := by omega
          simp [this]
    · have : i = k := by omega
      subst this
      have h2 := (bsOk_spec hb ho).2
      obtain ⟨hf, hs⟩ := rg_facts hc hI ho (by simp) (fun e he hbe => by have := h2 e he hbe; simpa using this) hd
      unfold wpOpIn
      rw [show ops.toArray[i]? = some o by simpa using ho]
      dsimp only
      rw [if_pos (by simp [Region.wanted, hg])]
      refine opP_in (hp own a w hf hs hI.evo) ?_
      rintro w' ⟨own', he⟩
      exact hfin own' a w' hI.dfr hI.siz (fun t ht => hI.keep t fun j hj => by
        have := List.all_eq_true.1 ht (j, t) hj
        simp at this) (hI.evo.trans (he.more fun t ht => by
        obtain ⟨x, hx, hb⟩ := List.any_eq_true.1 (List.all_eq_true.1 hKK t (allK_mem hd t ht))
        rw [Nat.eq_of_beq_eq_true hb]; exact hx))
theorem rg_pan {id : Nat} (k : Nat) {o : Oper} {d : OpD} (hc : rgCheck n ops ds rs bs K = true) (hz : a0.tmps.size = n) (hdf : a0.defers = dl)
    (hr : ∀ f ∈ rs, f.p own0 a0 w0) (ho : ops[k]? = some o) (hg : o.guard = none) (hd : ds[k]? = some d) (hst : Steps none P K ops ds rs a0 w0 own0 (ops.take k) (ds.take k)) (hp : PanOk P K ds rs a0 w0 own0 ch o d) (hfin : ∀ own a w, a.defers = dl → a.tmps.size = n → (∀ t, ((writersOf ops 0).all fun p => !Nat.beq p.2 t) = true → a.eval (.tmp t) = a0.eval (.tmp t)) → Evo K own0 own w0 w → Q (.panic ch) a w) :
    (Code.region id ops.toArray false).wpIn (RF none) 0 P Q a0 w0 := by
  refine wpIn_region ?_
  have hc' := hc
  simp only [rgCheck, Bool.and_eq_true] at hc'
  have := wpOpsF_pan hc hst ho hg hd hp hfin ops.length 0 (by omega) (by omega) own0 a0 w0 (by
    have := ri_start (K := K) (ops := ops) (ds := ds) (rs := rs) w0 (Evo.refl [] own0 w0) hz hdf hr (Nat.eq_of_beq_eq_true hc'.1.2)
    simpa using this)
  simpa [List.range_eq_range'] using this
theorem rg_pan_seq {id : Nat} {y : Code} (k : Nat) {o : Oper} {d : OpD} (hc : rgCheck n ops ds rs bs K = true) (hz : a0.tmps.size = n) (hdf : a0.defers = dl)
    (hr : ∀ f ∈ rs, f.p own0 a0 w0) (ho : ops[k]? = some o) (hg : o.guard = none) (hd : ds[k]? = some d) (hst : Steps none P K ops ds rs a0 w0 own0 (ops.take k) (ds.take k)) (hp : PanOk P K ds rs a0 w0 own0 ch o d) (hfin : ∀ own a w, a.defers = dl → a.tmps.size = n → (∀ t, ((writersOf ops 0).all fun p => !Nat.beq p.2 t) = true → a.eval (.tmp t) = a0.eval (.tmp t)) → Evo K own0 own w0 w → Q (.panic ch) a w) :
    (Code.seq (Code.region id ops.toArray false) y).wpIn (RF none) 0 P Q a0 w0 :=
  wpIn_seq (rg_pan k hc hz hdf hr ho hg hd hst hp hfin)
end
section
variable {P : Program} {T : List Nat} {own : Own} {a : Act} {w : World} {ty : TypeId} {pos : String} {after : Array Edge} {guard : Option (Nat × Bool)} {ch : List PanicEntry} {x : Operand}
theorem or_panic {t : TypeId} {v : Value} {dst : Option Tmp} (hx : a.eval x = .iface t v) : OpP P ⟨dst, .panic x, ty, pos, after, guard⟩ a w [{ v := .iface t v, recovered := false }] (fun w' => ∃ own', Evo T own own' w w') := by
  unfold OpP Oper.wp
  have hr : (execOp a.eval ⟨dst, .panic x, ty, pos, after, guard⟩).run P w = .halt (.panic (.iface t v)) w := by
    simp only [execOp, hx]
    simp [Instr.panic, goPanic, Sem.run_bind]
  rw [hr]
  exact ⟨rfl, rfl, own, Evo.refl _ _ _⟩
theorem or_callP {f : FuncId} {args : Array Operand} {ts : Array TypeId} {vs : Array Value} {dst : Option Tmp} {K : List Nat} {m m' : Nat → Nat} (hf : CF P f) (he : args.map a.eval = vs) (hc : Calls P f vs w (fun e w' => ∃ own', e = .panicked ch ∧ Evo K (forth own m) own' w w'))
    (hm : ∀ l, (l ∈ T → l = 0) → m l = 0 ∨ (m l ∉ K ∧ m' (m l) = l)) :
    OpP P ⟨dst, .call ⟨.value (.func f), args, ts⟩, ty, pos, after, guard⟩ a w ch (fun w' => ∃ own', Evo T own own' w w') := by
  unfold OpP Oper.wp
  have hr : (execOp a.eval ⟨dst, .call ⟨.value (.func f), args, ts⟩, ty, pos, after, guard⟩).run P w = .ok (.enter f vs) w := by
    have e : a.eval (.func f) = .func (.func f) #[] #[] := rfl
    simp only [execOp, resolve, he, e, Deferred.ofValue]
    simp [Sem.run_bind, invoke, hf vs w]
  rw [hr]
  refine hc.mono fun e w' h => ?_
  obtain ⟨own', rfl, hp⟩ := h
  exact ⟨rfl, rfl, _, Evo.back_ hp hm⟩
theorem or_callP0 {f : FuncId} {args : Array Operand} {ts : Array TypeId} {vs : Array Value} {dst : Option Tmp} (hf : CF P f) (he : args.map a.eval = vs) (hc : Calls P f vs w (fun e w' => ∃ own', e = .panicked ch ∧ Evo [] (fun _ => 0) own' w w')) :
    OpP P ⟨dst, .call ⟨.value (.func f), args, ts⟩, ty, pos, after, guard⟩ a w ch (fun w' => ∃ own', Evo T own own' w w') :=
  or_callP (K := []) (m := fun _ => 0) (m' := fun _ => 0) hf he hc (fun _ _ => .inl rfl)
end
section
variable {P : Program} {w : World}
theorem fl_enterP {f : FuncId} {fn : Func} {c : Code} {args : Array Value} {n : Nat} {R : Ending → World → Prop} (hf : P.funcs[f]? = some fn) (hb : fn.body = some c) (hn : fn.ntmps = n) (ha : args.size ≤ n)
    (h : ∀ (a : Act) (Q : Exit → Act → World → Prop), a.defers = [] → a.tmps.size = n → (∀ t v, args[t]? = some v → a.eval (.tmp t) = v) →
      (∀ e a' w' v, e = Exit.ret ∨ e = Exit.normal → a'.defers = [] → (results fn a'.tmps).run P w' = .ok v w' → R (.returned v) w' → Q e a' w') →
      (∀ a' w' ch, a'.defers = [] → R (.panicked ch) w' → Q (.panic ch) a' w') → c.wpIn (RF none) 0 P Q a w) : Calls P f args w R := by
  refine calls_of_wp hf hb ((wpIn_wide (n := 0)).1 (h _ _ rfl (by simp [hn]; omega) ?_ ?_ ?_))
  · intro t v hv
    show (args ++ Array.replicate (fn.ntmps - args.size) undef).getD t undef = v
    have hlt : t < args.size := (Array.getElem?_eq_some_iff.1 hv).1
    rw [Array.getD_eq_getD_getElem?, Array.getElem?_append_left hlt, hv]
    rfl
  · intro e a' w' v he hd hr hR
    rcases he with rfl | rfl
    · exact ⟨hd, v, hr, hR⟩
    · exact ⟨hd, v, hr, hR⟩
  · intro a' w' ch hd hR
    exact ⟨hd, hR⟩
end
end Go.Proofs.Ytaobbaohelpdgaa
