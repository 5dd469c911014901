import Derived.Test.YtnmkonlfnpcoiaaSx
import Derived.Test.YtnmkonlfnpcoiaaPre
import Derived.Deep.LoopGhost
import Derived.Laws.Small
namespace Go.Proofs.Ytnmkonlfnpcoiaa
open Go.RowKit
def Exit.outw : Exit → Bool
  | .normal => false
  | _ => true
def Exit.passes (id : Nat) : Exit → Bool
  | .normal => false
  | .exit i => !Nat.beq i id
  | _ => true
def Exit.leaves : Exit → Bool
  | .goto _ => false
  | .normal => false
  | _ => true
section
variable {r : Option Nat} {P : Program} {a : Act} {w : World} {Q : Exit → Act → World → Prop} {x y : Code} {id : Nat}
theorem fl_seq (h : ∀ Q' : Exit → Act → World → Prop, (∀ a w, y.wpIn (RF r) 0 P Q a w → Q' .normal a w) → (∀ e a w, Exit.outw e = true → Q e a w → Q' e a w) → x.wpIn (RF r) 0 P Q' a w) : (Code.seq x y).wpIn (RF r) 0 P Q a w :=
  wpIn_seq (h _ (fun _ _ h => h) (fun e a w he hq => by cases e <;> first | exact hq | cases he))
theorem fl_block (h : ∀ Q' : Exit → Act → World → Prop, (∀ a w, Q .normal a w → Q' .normal a w) → (∀ a w, Q .normal a w → Q' (.exit id) a w) → (∀ e a w, Exit.passes id e = true → Q e a w → Q' e a w) → x.wpIn (RF r) 0 P Q' a w) : (Code.block id x).wpIn (RF r) 0 P Q a w :=
  wpIn_block (h _ (fun _ _ h => h) (fun _ _ h => by simpa [Exit.inBlock] using h) (fun e a w he hq => by
    cases e with
    | exit i =>
      have : i ≠ id := fun e => by simp [Exit.passes, e] at he
      simpa [Exit.inBlock, this] using hq
    | normal => cases he
    | goto l => exact hq
    | ret => exact hq
    | panic c => exact hq
    | outgrown => exact hq))
theorem and_both {p q s : Prop} (h : p → q) (h2 : p → s) (hp : p) : q ∧ s := ⟨h hp, h2 hp⟩
theorem fl_skip (h : Q .normal a w) : Code.skip.wpIn (RF r) 0 P Q a w := wpIn_skip h
theorem fl_label {l : Nat} (h : Q .normal a w) : (Code.label l).wpIn (RF r) 0 P Q a w := wpIn_label h
theorem fl_exit (h : Q (.exit id) a w) : (Code.exit id).wpIn (RF r) 0 P Q a w := wpIn_exit h
theorem fl_goto {l : Nat} (h : Q (.goto l) a w) : (Code.goto l).wpIn (RF r) 0 P Q a w := wpIn_goto h
theorem fl_ret (h : Q .ret a w) : Code.ret.wpIn (RF r) 0 P Q a w := wpIn_ret h
theorem fl_t {c : Operand} (hc : a.eval c = .bool true) (h : x.wpIn (RF r) 0 P Q a w) : (Code.cond c x y).wpIn (RF r) 0 P Q a w := wpIn_cond_true hc h
theorem fl_f {c : Operand} (hc : a.eval c = .bool false) (h : y.wpIn (RF r) 0 P Q a w) : (Code.cond c x y).wpIn (RF r) 0 P Q a w := wpIn_cond_false hc h
theorem fl_cond {Z : Type} {c : Operand} {t : Bool} {E F : Option Z} {z : Z} (hc : a.eval c = .bool t) (hs : (if t = true then E else F) = some z) (ht : t = true → E = some z → x.wpIn (RF r) 0 P Q a w) (hf : t = false → F = some z → y.wpIn (RF r) 0 P Q a w) : (Code.cond c x y).wpIn (RF r) 0 P Q a w :=
  wpIn_cond_split hc (fun h => ht h (by rw [if_pos h] at hs; exact hs)) (fun h => hf h (by rw [h, if_neg (by decide)] at hs; exact hs))
theorem wpIn_loop_ghost {c : Code} (I : Nat → Act → World → Prop) (n₀ : Nat) (h₀ : I n₀ a w)
    (round : ∀ n a w, I n a w → c.wpIn (RF r) 0 P (Exit.then (fun a' w' => ∃ n', n' < n ∧ I n' a' w') Q) a w) : (Code.loop c).wpIn (RF r) 0 P Q a w := by
  refine wpIn_loop (fun a w => ∃ n, I n a w) (fun a w => leastOf (fun n => I n a w)) ⟨n₀, h₀⟩ ?_
  intro a w hI
  refine wpIn_mono (round _ a w (leastOf_spec hI).1) ?_
  intro e a' w' hq
  cases e with
  | normal =>
    obtain ⟨n', hlt, hI'⟩ := hq
    exact show (∃ n, I n a' w') ∧ leastOf (fun n => I n a' w') < leastOf (fun n => I n a w) from ⟨⟨n', hI'⟩, Nat.lt_of_le_of_lt ((leastOf_spec ⟨n', hI'⟩).2 n' hI') hlt⟩
  | exit id => exact hq
  | goto l => exact hq
  | ret => exact hq
  | panic ch => exact hq
  | outgrown => exact hq
theorem fl_loop {S Z : Type} {body : S → Option (S ⊕ Z)} {s0 : S} {z : Z} (hs : loopO body s0 = some z) (Rel : S → Act → World → Prop) (h0 : Rel s0 a w)
    (round : ∀ (s : S) (zz : S ⊕ Z) (a : Act) (w : World), Rel s a w → body s = some zz → ∀ Q' : Exit → Act → World → Prop, (∀ s' a' w', some (Sum.inl s') = some zz → Rel s' a' w' → Q' .normal a' w') → (∀ e a w, Exit.outw e = true → Q e a w → Q' e a w) →
      (∀ E : Option Z, E.map Sum.inr = some zz → E = some z) → x.wpIn (RF r) 0 P Q' a w) : (Code.loop x).wpIn (RF r) 0 P Q a w := by
  obtain ⟨n, hn⟩ := loopO_some.1 hs
  refine wpIn_loop_ghost (fun n a w => ∃ s, iter body n s = some z ∧ Rel s a w) n ⟨s0, hn, h0⟩ ?_
  rintro n a w ⟨s, hi, hR⟩
  obtain ⟨k, zz, rfl, hb, hz⟩ := iter_step hi
  refine round s zz a w hR hb _ ?_ (fun e a w he hq => by cases e <;> first | exact hq | cases he) (fun E hE => iter_exit hE hz)
  intro s' a' w' he hR'
  injection he with he
  subst he
  exact ⟨k, Nat.lt_succ_self _, s', hz, hR'⟩
theorem fl_enter {f : FuncId} {fn : Func} {c : Code} {args : Array Value} {n : Nat} {R : Ending → World → Prop} (hf : P.funcs[f]? = some fn) (hb : fn.body = some c) (hn : fn.ntmps = n) (ha : args.size ≤ n)
    (h : ∀ (a : Act) (Q : Exit → Act → World → Prop), a.defers = [] → a.tmps.size = n → (∀ t v, args[t]? = some v → a.eval (.tmp t) = v) →
      (∀ e a' w' v, e = Exit.ret ∨ e = Exit.normal → a'.defers = [] → (results fn a'.tmps).run P w' = .ok v w' → R (.returned v) w' → Q e a' w') → c.wpIn (RF none) 0 P Q a w) : Calls P f args w R := by
  refine calls_of_wp hf hb ((wpIn_wide (n := 0)).1 (h _ _ rfl (by simp [hn]; omega) ?_ ?_))
  · intro t v hv
    show (args ++ Array.replicate (fn.ntmps - args.size) undef).getD t undef = v
    have hlt : t < args.size := (Array.getElem?_eq_some_iff.1 hv).1
    rw [Array.getD_eq_getD_getElem?, Array.getElem?_append_left hlt, hv]
    rfl
  · intro e a' w' v he hd hr hR
    rcases he with rfl | rfl
    · exact ⟨hd, v, hr, hR⟩
    · exact ⟨hd, v, hr, hR⟩
end
section
variable {r : Option Nat} {P : Program} {a : Act} {w : World} {Q : Exit → Act → World → Prop} {c : Code} {b : Frame} {k : List Item} {cs : List Frame} {F : Fence} {m : Machine} {I : Machine → Prop}
theorem stepR_scope : step P (lone (b.atR a (.code (.scope c) :: k)) cs w) = .next (lone (b.atR a (.code c :: .inScope c :: k)) cs w) :=
  step_lone_go (by simp [stepG, stepG.exec, Frame.atR])
theorem stepR_inScope : step P (lone (b.atR a (.inScope c :: k)) cs w) = .next (lone (b.atR a k) cs w) :=
  step_lone_go (by simp [stepG, stepG.exec, Frame.atR])
theorem scope_out {e : Exit} (he : Exit.leaves e = true ∨ ∃ l, e = .goto l ∧ findLabel c l = none) (h : ArrivesIn I P m b (.inScope c :: k) cs e a w) : ArrivesIn I P m b k cs e a w := by
  cases e with
  | normal => simp [Exit.leaves] at he
  | exit id => exact ⟨fun k' hk => h.1 k' (by simpa [exitTo] using hk), fun hr hk => h.2 hr (by simpa [exitTo] using hk)⟩
  | goto l =>
    have hn : findLabel c l = none := by
      rcases he with he | ⟨l', e, h⟩
      · simp [Exit.leaves] at he
      · injection e with e; rw [e]; exact h
    have hx : gotoIn l (.inScope c :: k) = gotoIn l k := by simp [gotoIn, hn]
    exact ⟨fun k' hk => h.1 k' (by rw [hx]; exact hk), fun hr hk => h.2 hr (by rw [hx]; exact hk)⟩
  | ret => exact h
  | panic ch => exact h
  | outgrown => exact h
structure ScopeOut (c : Code) (Q Q' : Exit → Act → World → Prop) : Prop where
  normal : ∀ a w, Q .normal a w → Q' .normal a w
  leaves : ∀ e a w, Exit.leaves e = true → Q e a w → Q' e a w
  far : ∀ l a w, findLabel c l = none → Q (.goto l) a w → Q' (.goto l) a w
theorem fl_scope {S Z : Type} {body : S → Option (S ⊕ Z)} {z : Z} (lab : S → Nat) (hf : ∀ s, (findLabel c (lab s)).isSome = true) (Rel : S → Act → World → Prop)
    (first : ∀ Q' : Exit → Act → World → Prop, (∀ s' a' w', loopO body s' = some z → Rel s' a' w' → Q' (.goto (lab s')) a' w') → ScopeOut c Q Q' → c.wpIn (RF r) 0 P Q' a w)
    (pass : ∀ (s : S) (zz : S ⊕ Z) (a : Act) (w : World), Rel s a w → body s = some zz → ∀ Q' : Exit → Act → World → Prop, (∀ s' a' w', some (Sum.inl s') = some zz → Rel s' a' w' → Q' (.goto (lab s')) a' w') → ScopeOut c Q Q' →
      (∀ E : Option Z, E.map Sum.inr = some zz → E = some z) → ((findLabel c (lab s)).getD .skip).wpIn (RF r) 0 P Q' a w) : (Code.scope c).wpIn (RF r) 0 P Q a w := by
  obtain ⟨rest, hrest⟩ : ∃ rest : S → Code, rest = fun s => (findLabel c (lab s)).getD .skip := ⟨_, rfl⟩
  have hf : ∀ s, findLabel c (lab s) = some (rest s) := by
    intro s
    have := hf s
    subst hrest
    cases h : findLabel c (lab s) with
    | none => rw [h] at this; cases this
    | some x => simp [h]
  have pass : ∀ (s : S) (zz : S ⊕ Z) (a : Act) (w : World), Rel s a w → body s = some zz → ∀ Q' : Exit → Act → World → Prop, (∀ s' a' w', some (Sum.inl s') = some zz → Rel s' a' w' → Q' (.goto (lab s')) a' w') → ScopeOut c Q Q' →
      (∀ E : Option Z, E.map Sum.inr = some zz → E = some z) → (rest s).wpIn (RF r) 0 P Q' a w := by subst hrest; exact pass
  clear hrest
  intro b k cs hro hb hr
  have hjump : ∀ s, gotoIn (lab s) (.inScope c :: k) = some (.code (rest s) :: .inScope c :: k) := fun s => by simp [gotoIn, hf]
  have key : ∀ n s a w, iter body n s = some z → Rel s a w → ∃ e a' w', Q e a' w' ∧ ArrivesIn (Machine.fenced P (RF r)) P (lone (b.atR a (.code (rest s) :: .inScope c :: k)) cs w) b k cs e a' w' := by
    intro n
    induction n using Nat.strongRecOn with
    | _ n ih =>
      intro s a w hi hR
      obtain ⟨m, zz, rfl, hbd, hz⟩ := iter_step hi
      obtain ⟨e, a₁, w₁, hq, harr⟩ := pass s zz a w hR hbd (fun e a w => match e with
        | .goto l' => (∃ s', l' = lab s' ∧ iter body m s' = some z ∧ Rel s' a w) ∨ (findLabel c l' = none ∧ Q (.goto l') a w)
        | e => Q e a w) (fun s' a' w' he hR' => .inl ⟨s', rfl, (by injection he with he; subst he; exact hz), hR'⟩) ⟨fun _ _ h => h, fun e a w he hq => (by cases e <;> first | exact hq | cases he), fun l a w hn hq => .inr ⟨hn, hq⟩⟩ (fun E hE => iter_exit hE hz) b (.inScope c :: k) cs hro hb hr
      cases e with
      | normal => exact ⟨.normal, a₁, w₁, hq, StepsIn.trans harr (.one (fenced_calm hb hr rfl) stepR_inScope)⟩
      | goto l' =>
        rcases hq with ⟨s', rfl, hi', hR'⟩ | ⟨hn, hq⟩
        · obtain ⟨e₂, a₂, w₂, hq₂, harr₂⟩ := ih m (Nat.lt_succ_self _) s' a₁ w₁ hi' hR'
          exact ⟨e₂, a₂, w₂, hq₂, .of_steps (harr.1 _ (hjump s')) harr₂⟩
        · exact ⟨_, a₁, w₁, hq, scope_out (.inr ⟨l', rfl, hn⟩) harr⟩
      | exit id => exact ⟨_, a₁, w₁, hq, scope_out (.inl rfl) harr⟩
      | ret => exact ⟨_, a₁, w₁, hq, scope_out (.inl rfl) harr⟩
      | panic ch => exact ⟨_, a₁, w₁, hq, scope_out (.inl rfl) harr⟩
      | outgrown => exact ⟨_, a₁, w₁, hq, scope_out (.inl rfl) harr⟩
  have h0 : (lone (b.atR a (.code (.scope c) :: k)) cs w).fenced P (RF r) := fenced_calm hb hr rfl
  obtain ⟨e, a₁, w₁, hq, harr⟩ := first (fun e a w => match e with
        | .goto l' => (∃ s' n, l' = lab s' ∧ iter body n s' = some z ∧ Rel s' a w) ∨ (findLabel c l' = none ∧ Q (.goto l') a w)
        | e => Q e a w) (fun s' a' w' he hR' => (loopO_some.1 he).elim fun n hn => .inl ⟨s', n, rfl, hn, hR'⟩) ⟨fun _ _ h => h, fun e a w he hq => (by cases e <;> first | exact hq | cases he), fun l a w hn hq => .inr ⟨hn, hq⟩⟩ b (.inScope c :: k) cs hro hb hr
  cases e with
  | normal => exact ⟨.normal, a₁, w₁, hq, .head h0 stepR_scope (StepsIn.trans harr (.one (fenced_calm hb hr rfl) stepR_inScope))⟩
  | goto l' =>
    rcases hq with ⟨s', n, rfl, hi', hR'⟩ | ⟨hn, hq⟩
    · obtain ⟨e₂, a₂, w₂, hq₂, harr₂⟩ := key n s' a₁ w₁ hi' hR'
      exact ⟨e₂, a₂, w₂, hq₂, .of_steps (.head h0 stepR_scope (harr.1 _ (hjump s'))) harr₂⟩
    · exact ⟨_, a₁, w₁, hq, .of_steps (.one h0 stepR_scope) (scope_out (.inr ⟨l', rfl, hn⟩) harr)⟩
  | exit id => exact ⟨_, a₁, w₁, hq, .of_steps (.one h0 stepR_scope) (scope_out (.inl rfl) harr)⟩
  | ret => exact ⟨_, a₁, w₁, hq, .of_steps (.one h0 stepR_scope) (scope_out (.inl rfl) harr)⟩
  | panic ch => exact ⟨_, a₁, w₁, hq, .of_steps (.one h0 stepR_scope) (scope_out (.inl rfl) harr)⟩
  | outgrown => exact ⟨_, a₁, w₁, hq, .of_steps (.one h0 stepR_scope) (scope_out (.inl rfl) harr)⟩
theorem fl_scope_head {S Z : Type} {body : S → Option (S ⊕ Z)} {z : Z} {y : Code} {l0 : Nat} {s0 : S} (hs : loopO body s0 = some z) (Rel : S → Act → World → Prop) (h0 : Rel s0 a w)
    (pass : ∀ (s : S) (zz : S ⊕ Z) (a : Act) (w : World), Rel s a w → body s = some zz → ∀ Q' : Exit → Act → World → Prop, (∀ s' a' w', some (Sum.inl s') = some zz → Rel s' a' w' → Q' (.goto l0) a' w') → ScopeOut (Code.seq (Code.label l0) y) Q Q' →
      (∀ E : Option Z, E.map Sum.inr = some zz → E = some z) → y.wpIn (RF r) 0 P Q' a w) : (Code.scope (Code.seq (Code.label l0) y)).wpIn (RF r) 0 P Q a w := by
  have hfl : findLabel (Code.seq (Code.label l0) y) l0 = some (Code.seq Code.skip y) := by simp [findLabel]
  refine fl_scope (body := body) (z := z) (fun _ => l0) (fun _ => by rw [hfl]; rfl) Rel ?_ ?_
  · intro Q' hj hp
    refine wpIn_seq (wpIn_label ?_)
    obtain ⟨n, hn⟩ := loopO_some.1 hs
    obtain ⟨k, zz, rfl, hb, hz⟩ := iter_step hn
    refine pass s0 zz a w h0 hb Q' (fun s' a' w' he hR => hj s' a' w' ?_ hR) hp (fun E hE => iter_exit hE hz)
    injection he with he
    subst he
    exact loopO_some.2 ⟨k, hz⟩
  · intro s zz a w hR hb Q' hj hp hz
    rw [hfl]
    exact wpIn_seq (wpIn_skip (pass s zz a w hR hb Q' hj hp hz))
end
section
variable {r : Option Nat} {P : Program} {Q : Exit → Act → World → Prop} {y : Code} {a : Act} {w : World} {ops : List Oper} {ds : List OpD} {rs : List Fct} {own0 : Own} {n : Nat} {bs K : List Nat} {dl : List Deferred}
theorem rg_plain_seq {id : Nat} (hc : rgCheck n ops ds rs bs K = true) (hz : a.tmps.size = n) (hdf : a.defers = dl)
    (hr : ∀ f ∈ rs, f.p own0 a w) (hst : Steps r P K ops ds rs a w own0 ops ds) (hfin : RgFin dl K ops ds rs a w own0 n (fun a w => y.wpIn (RF r) 0 P Q a w)) :
    (Code.seq (Code.region id ops.toArray false) y).wpIn (RF r) 0 P Q a w := wpIn_seq (rg_plain hc hz hdf hr hst hfin)
theorem rg_draw_seq {id : Nat} (hm : P.follows .mixedOrders = true) (hc : rgCheck n ops ds rs bs K = true) (hz : a.tmps.size = n) (hdf : a.defers = dl)
    (hr : ∀ f ∈ rs, f.p own0 a w) (hst : Steps r P K ops ds rs a w own0 ops ds) (hfin : RgFin dl K ops ds rs a w own0 n (fun a w => y.wpIn (RF r) 0 P Q a w)) :
    (Code.seq (Code.region id ops.toArray true) y).wpIn (RF r) 0 P Q a w := wpIn_seq (rg_draw hm hc hz hdf hr hst hfin)
end
def bz (n : Nat) : List Nat := (List.range n).map fun k => 2 ^ k - 1
theorem nm_ {α : Type} {p : α → Prop} : ∀ f ∈ ([] : List α), p f := fun _ h => nomatch h
theorem es_ {K T : List Nat} {wE : World} {j : Nat} {own own' : Own} {w w' : World} (h : Evo K (fun _ => j) own wE w) (h' : Evo T own own' w w') (hT : (T.all fun t => Nat.blt j t || K.any (Nat.beq t)) = true := by exact rfl) : Evo K (fun _ => j) own' wE w' := Evo.step h (fun _ => Nat.le_refl j) h' hT
section
variable {r : Option Nat} {P : Program} {Q : Exit → Act → World → Prop} {y : Code} {a : Act} {w : World} {ops : List Oper} {dl : List Deferred}
end
end Go.Proofs.Ytnmkonlfnpcoiaa
