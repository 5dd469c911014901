import Derived.Test.YtoccfdohlefifaaMore
import Derived.RangeFuncNested
namespace Go.Proofs.Ytoccfdohlefifaa
open Go.RowKit
structure Sq (S : Type) where
  J : S → (Nat → Prop) → (Nat → Prop) → World → Prop
  st : ∀ {s : S} {M U M' U' : Nat → Prop} {w w' : World}, J s M U w → w'.os = w.os → w'.tape = w.tape → w'.output = w.output → w.heap.size ≤ w'.heap.size →
    (∀ b, b < w.heap.size → U b → U' b ∧ w'.heap[b]? = w.heap[b]?) → (∀ b, b < w.heap.size → M b → M' b) → J s M' U' w'
def SqO {S : Type} (J : Sq S) (own : Own) (lab : Nat) (w : World) (s : S) : Prop := lab ≠ 0 ∧ J.J s (fun b => own b = lab) (fun b => own b = lab ∨ own b = 0) w
section
variable {S : Type} {J : Sq S} {own own' : Own} {lab : Nat} {w w' : World} {s : S} {T : List Nat}
theorem SqO.evo (hl : lab ∉ T) (he : Evo T own own' w w') (h : SqO J own lab w s) : SqO J own' lab w' s := by
  have hk : ∀ b, b < w.heap.size → (own b = lab ∨ own b = 0) → own' b = own b ∧ w'.heap[b]? = w.heap[b]? := fun b hb hu => he.keep b hb fun hm => by
    rcases hu with e | e
    · rw [e] at hm; exact (hl hm).elim
    · exact e
  refine ⟨h.1, J.st h.2 he.os he.tape he.output he.size (fun b hb hu => ?_) fun b hb hm => ?_⟩
  · have := hk b hb hu
    exact ⟨by rw [this.1]; exact hu, this.2⟩
  · rw [(hk b hb (.inl hm)).1]; exact hm
theorem SqO.rl_ {mm : List (Nat × Nat)} (h : SqO J own lab w s) (h0 : look mm 0 = 0) (hl : look mm lab ≠ 0) : SqO J (rl mm own) (look mm lab) w s := by
  refine ⟨hl, J.st h.2 rfl rfl rfl (Nat.le_refl _) (fun b hb hu => ⟨?_, rfl⟩) fun b hb hm => ?_⟩
  · rcases hu with e | e
    · left; show look mm (own b) = _; rw [e]
    · right; show look mm (own b) = _; rw [e]; exact h0
  · show look mm (own b) = _; rw [hm]
end
def Rounds (P : Program) (l : Nat) {S X : Type} (encs : X → Array Value) (y : S → X → Option (Bool × S)) (J : Sq S) : Prop :=
  ∀ (s : S) (x : X) (z : Bool × S) (M U : Nat → Prop) (w : World), J.J s M U w → y s x = some z →
    ∃ fn tmps assign body, (Instr.yield l (encs x)).run P w = .ok (.round l fn tmps assign body) w ∧
      RoundIn Fence.wide 0 P l fn tmps assign body w (fun e w' => e = .returned (.bool z.1) ∧ w'.os = w.os ∧ w'.tape = w.tape ∧ w'.output = w.output ∧ w.heap.size ≤ w'.heap.size ∧
        (∀ b, b < w.heap.size → ¬ M b → w'.heap[b]? = w.heap[b]?) ∧ J.J z.2 (fun b => M b ∨ w.heap.size ≤ b) (fun b => U b ∨ w.heap.size ≤ b) w')
def Fct.seq {S : Type} (J : Sq S) (lab d : Nat) (b : Bool) (s : S) : Fct :=
  ⟨[lab], [d], fun own a w => a.eval (.tmp d) = .bool b ∧ SqO J own lab w s, fun hk ha he h => ⟨(ha d (by simp)).trans h.1, SqO.evo (not_hit hk (by simp)) he h.2⟩⟩
def Fct.seqAt {S : Type} (J : Sq S) (lab : Nat) (s : S) : Fct := Fct.here lab (fun own w => SqO J own lab w s) SqO.evo
section
variable {P : Program} {r : Option Nat} {S X : Type} {J : Sq S} {T : List Nat} {own : Own} {a : Act} {w : World} {d lab lab2 l : Nat} {f : Operand} {args : Array Operand} {ts : Array TypeId} {ty : TypeId} {pos : String} {after : Array Edge} {guard : Option (Nat × Bool)} {encs : X → Array Value} {y : S → X → Option (Bool × S)} {s : S} {x : X} {z : Bool × S}
theorem or_yield (hf : a.eval f = .func (.yield l) #[] #[]) (ha : args.map a.eval = encs x) (hY : Rounds P l encs y J) (h : SqO J own lab w s) (hz : y s x = some z) (hT : lab ∈ T) (h2 : lab2 ≠ 0) :
    OpF r P ⟨some d, .call ⟨.value f, args, ts⟩, ty, pos, after, guard⟩ a w (Post T own a w (Fct.seq J lab2 d z.1 z.2) (some d)) := by
  obtain ⟨fn, tmps, assign, body, hy, hR⟩ := hY s x z _ _ w h.2 hz
  unfold OpF Oper.wpIn
  refine ⟨fun _ _ => trivial, ?_⟩
  have hs : (Oper.semAt (RF r).round a.eval ⟨some d, .call ⟨.value f, args, ts⟩, ty, pos, after, guard⟩) = execOp a.eval ⟨some d, .call ⟨.value f, args, ts⟩, ty, pos, after, guard⟩ := by
    cases r with
    | none => rfl
    | some l => exact Oper.semAt_some l _ _ (fun c hc => by cases hc)
  rw [hs]
  have he : (execOp a.eval ⟨some d, .call ⟨.value f, args, ts⟩, ty, pos, after, guard⟩).run P w = .ok (.round l fn tmps assign body) w := by
    simp only [execOp, resolve, hf, ha]
    simp [Sem.run_bind, invoke, go_sem, hy]
  rw [he]
  refine ⟨fun hd => by simp [RF, Fence.wide] at hd, ?_⟩
  refine (show RoundIn (RF r) 0 P l fn tmps assign body w _ from hR).mono ?_
  rintro e w' ⟨rfl, h1, h2', h3, h4, h5, h6⟩
  refine ⟨_, rfl, mvOwn w T lab2 own, Evo.mv T lab2 own h1 h2' h3 h4 (fun b hb hn => h5 b hb fun e => ?_), fun a' ha' => ⟨ha'.1 d rfl, h2, J.st h6 rfl rfl rfl (Nat.le_refl _) (fun b hb hu => ⟨?_, rfl⟩) fun b hb hm => ?_⟩⟩
  · rw [e] at hn; exact h.1 (hn hT)
  · rcases hu with (e | e) | e
    · exact .inl (mvOwn_struck (by rw [e]; exact hT) (by rw [e]; exact h.1))
    · by_cases hlt : b < w.heap.size
      · exact .inr (mvOwn_zero hlt e)
      · exact .inl (mvOwn_new (by omega))
    · exact .inl (mvOwn_new e)
  · rcases hm with e | e
    · exact mvOwn_struck (by rw [e]; exact hT) (by rw [e]; exact h.1)
    · exact mvOwn_new e
end
section
variable {P : Program} {r : Option Nat} {S X : Type} {J : Sq S} {T : List Nat} {own : Own} {a : Act} {w : World} {d lab lab2 : Nat} {o : Oper} {s s' : S} {b c : Bool}
end
def mkD (Ds : List Nat) : List Deferred := Ds.map fun D => { target := .collected D, args := #[] }
def MkO (own : Own) (lab : Nat) (w : World) (Ds : List Nat) : Prop := Ds.Nodup ∧ ∀ D ∈ Ds, own D = lab ∧ w.heap[D]? = some (.deferred (some []))
section
variable {own own' : Own} {lab k : Nat} {w w' : World} {Ds : List Nat} {T : List Nat}
theorem MkO.nil_ : MkO own lab w [] := ⟨List.nodup_nil, fun D h => by cases h⟩
theorem MkO.evo (hl : lab ∉ T) (he : Evo T own own' w w') (h : MkO own lab w Ds) : MkO own' lab w' Ds := by
  refine ⟨h.1, fun D hD => ?_⟩
  have h1 := h.2 D hD
  have hk := he.keep D (Array.getElem?_eq_some_iff.1 h1.2).1 (fun hm => by rw [h1.1] at hm; exact (hl hm).elim)
  exact ⟨hk.1.trans h1.1, hk.2.trans h1.2⟩
theorem MkO.rl_ {mm : List (Nat × Nat)} (h : MkO own lab w Ds) : MkO (rl mm own) (look mm lab) w Ds := ⟨h.1, fun D hD => ⟨by show look mm (own D) = _; rw [(h.2 D hD).1], (h.2 D hD).2⟩⟩
theorem Evo.put_ {b : Nat} {o : Obj} (hb : own b = k) (hk : k ≠ 0) : Evo [k] own own w (w.putObj b o) :=
  ⟨rfl, rfl, rfl, by simp, fun c hc hT => ⟨rfl, World.putObj_heap_other fun e => by subst e; rw [hb] at hT; exact hk (hT (by simp))⟩⟩
theorem leavesM {F : Fence} {n : Nat} {P : Program} {fn : Func} {tmps : Array Value} {R : Ending → World → Prop} (hk : k ≠ 0) : ∀ (Ds : List Nat) (own : Own) (w : World), MkO own k w Ds →
    (∀ own2 w2, Evo [k] own own2 w w2 → ∃ v, (results fn tmps).run P w2 = .ok v w2 ∧ R (.returned v) w2) → LeavesInM F n P fn tmps R (mkD Ds) .returning w
  | [], own, w, _, h => h own w (Evo.refl _ _ _)
  | D :: Ds, own, w, hm, h => by
    have hD := hm.2 D (by simp)
    have hn := List.nodup_cons.1 hm.1
    refine ⟨by simp, .inl ⟨D, _, rfl, run_takeDeferred hD.2, leavesM hk Ds own _ ⟨hn.2, fun D' hD' => ?_⟩ fun own2 w2 hE => h own2 w2 ((Evo.put_ hD.1 hk).trans hE)⟩⟩
    have := hm.2 D' (by simp [hD'])
    exact ⟨this.1, (World.putObj_heap_other fun e => by subst e; exact hn.1 hD').trans this.2⟩
end
theorem fl_enterM {P : Program} {w : World} {f : FuncId} {fn : Func} {c : Code} {args : Array Value} {n kD : Nat} {R : Ending → World → Prop} (hk : kD ≠ 0) (hf : P.funcs[f]? = some fn) (hb : fn.body = some c) (hn : fn.ntmps = n) (ha : args.size ≤ n)
    (h : ∀ (a : Act) (Q : Exit → Act → World → Prop), a.defers = mkD [] → a.tmps.size = n → (∀ t v, args[t]? = some v → a.eval (.tmp t) = v) →
      (∀ e a' w' own Ds, e = Exit.ret ∨ e = Exit.normal → a'.defers = mkD Ds → MkO own kD w' Ds → (∀ own2 w2, Evo [kD] own own2 w' w2 → ∃ v, (results fn a'.tmps).run P w2 = .ok v w2 ∧ R (.returned v) w2) → Q e a' w') → c.wpIn (RF none) 0 P Q a w) : Calls P f args w R := by
  refine (callsIn_wide (n := 0)).1 (callsIn_of_wp_marks hf hb trivial ?_ rfl)
  refine h _ (bodyPostM Fence.wide 0 P fn R) rfl (by simp [hn]; omega) ?_ ?_
  · intro t v hv
    show (args ++ Array.replicate (fn.ntmps - args.size) undef).getD t undef = v
    have hlt : t < args.size := (Array.getElem?_eq_some_iff.1 hv).1
    rw [Array.getD_eq_getD_getElem?, Array.getElem?_append_left hlt, hv]
    rfl
  · intro e a' w' own Ds he hd hm hr
    have := leavesM (F := Fence.wide) (n := 0) hk Ds own w' hm hr
    rw [← hd] at this
    rcases he with rfl | rfl <;> exact this
def RcO (own : Own) (j : Nat) (w : World) (l : Nat) : Prop := own l = j ∧ ∃ rc, w.heap[l]? = some (.loop rc)
theorem RcO.evo {own own' : Own} {j l : Nat} {w w' : World} {T : List Nat} (hl : j ∉ T) (he : Evo T own own' w w') (h : RcO own j w l) : RcO own' j w' l := by
  obtain ⟨h1, rc, h2⟩ := h
  have hk := he.keep l (Array.getElem?_eq_some_iff.1 h2).1 (fun hm => by rw [h1] at hm; exact (hl hm).elim)
  exact ⟨hk.1.trans h1, rc, hk.2.trans h2⟩
def codeOf : Exit → Option Code
  | .ret => some .ret
  | .exit i => some (.exit i)
  | .goto t => some (.goto t)
  | _ => none
def RdPost {S D : Type} (K : List Nat) (zz : S ⊕ D) (jump : D → Code) (Rel : S → Own → World → Prop) (RelX : D → Own → World → Prop) (ox : Own) (w0 : World) : Exit → Act → World → Prop
  | .normal, _, w => ∃ s' ox', zz = .inl s' ∧ Evo K ox ox' w0 w ∧ Rel s' ox' w
  | e, _, w => ∃ d ox', zz = .inr d ∧ codeOf e = some (jump d) ∧ Evo K ox ox' w0 w ∧ RelX d ox' w
theorem Evo.rlK {K : List Nat} {ownE own : Own} {wE w : World} {mm : List (Nat × Nat)} (h : Evo K ownE own wE w) (hm : (mm.all fun p => K.any (Nat.beq p.1) && !Nat.beq p.1 0) = true) : Evo K ownE (rl mm own) wE w :=
  ⟨h.os, h.tape, h.output, h.size, fun b hb hT => by
    have h1 := h.keep b hb hT
    refine ⟨?_, h1.2⟩
    show look mm (own b) = _
    rw [h1.1]
    refine look_same fun p hp e => ?_
    have := List.all_eq_true.1 hm p hp
    simp only [Bool.and_eq_true, Bool.not_eq_true'] at this
    have hk := mem_of this.1
    rw [e] at hk this
    have h0 := hT hk
    rw [h0] at this
    simp at this⟩
theorem RcO.rl_ {own : Own} {j l : Nat} {w : World} {mm : List (Nat × Nat)} (h : RcO own j w l) : RcO (rl mm own) (look mm j) w l := ⟨by show look mm (own l) = _; rw [h.1], h.2⟩
theorem Evo.stepK {K T : List Nat} {ownE own own' : Own} {wE w w' : World} (h : Evo K ownE own wE w) (h' : Evo T own own' w w') (hT : (T.all fun t => K.any (Nat.beq t)) = true) : Evo K ownE own' wE w' :=
  h.trans (h'.more fun t ht => mem_of (List.all_eq_true.1 hT t ht))
def kj (j : Nat) (K : List Nat) : List (Nat × Nat) := (j, 1) :: K.map fun k => (k, 1)
theorem look0_kj {j : Nat} {K : List Nat} (x : Nat) : look0 (kj j K) x = if x ∈ j :: K then 1 else 0 := by
  have key : ∀ L : List Nat, look0 (L.map fun k => (k, 1)) x = if x ∈ L then 1 else 0 := by
    intro L
    induction L with
    | nil => rfl
    | cons k L ih =>
      show (if Nat.beq k x then 1 else look0 (L.map fun k => (k, 1)) x) = _
      by_cases h : k = x
      · subst h; simp
      · have : Nat.beq k x = false := by cases hb : Nat.beq k x with
          | false => rfl
          | true => exact (h (Nat.eq_of_beq_eq_true hb)).elim
        rw [this, ih]
        simp [Ne.symm h]
  exact key (j :: K)
def Begun (a ar : Act) (ps : Array Tmp) (vs : Array Value) : Prop :=
  ar.defers = mkD [] ∧ ar.tmps.size = a.tmps.size ∧ (∀ t, (ps.toList.all fun p => !Nat.beq p t) = true → ar.eval (.tmp t) = a.eval (.tmp t)) ∧ ∀ (i p : Nat) (v : Value), ps[i]? = some p → vs[i]? = some v → ar.eval (.tmp p) = v
def psOk (n : Nat) (ps : List Nat) : Bool := noTwice ps && ps.all fun p => Nat.blt p n
theorem fold_set : ∀ (ps : List Nat) (vs : List Value) (tm : Array Value), noTwice ps = true → (∀ p ∈ ps, p < tm.size) → ps.length = vs.length →
    ((ps.zip vs).foldl (fun t (p, v) => t.setIfInBounds p v) tm).size = tm.size ∧ (∀ t, t ∉ ps → ((ps.zip vs).foldl (fun t (p, v) => t.setIfInBounds p v) tm).getD t undef = tm.getD t undef) ∧
    ∀ (i p : Nat) (v : Value), ps[i]? = some p → vs[i]? = some v → ((ps.zip vs).foldl (fun t (p, v) => t.setIfInBounds p v) tm).getD p undef = v
  | [], _, tm, _, _, _ => by refine ⟨by simp, fun t _ => by simp, fun i p v h => by simp at h⟩
  | p :: ps, [], tm, _, _, h => by simp at h
  | p :: ps, v :: vs, tm, hn, hlt, hl => by
    simp only [noTwice, Bool.and_eq_true] at hn
    have hp : p ∉ ps := fun hm => by
      have := List.all_eq_true.1 hn.1 p hm
      simp at this
    have ih := fold_set ps vs (tm.setIfInBounds p v) hn.2 (fun q hq => by simpa using hlt q (by simp [hq])) (by simpa using hl)
    simp only [List.zip_cons_cons, List.foldl_cons]
    refine ⟨by rw [ih.1]; simp, fun t ht => ?_, fun i q u hq hu => ?_⟩
    · simp only [List.mem_cons, not_or] at ht
      rw [ih.2.1 t ht.2]
      simp [Array.getD_eq_getD_getElem?, Array.getElem?_setIfInBounds_ne (Ne.symm ht.1)]
    · cases i with
      | zero =>
        simp at hq hu
        subst hq hu
        rw [ih.2.1 p hp]
        have := hlt p (by simp)
        simp [Array.getD_eq_getD_getElem?, Array.getElem?_setIfInBounds, this]
      | succ i => exact ih.2.2 i q u (by simpa using hq) (by simpa using hu)
theorem begun {a : Act} {ps : Array Tmp} {vs : Array Value} (hp : psOk a.tmps.size ps.toList = true) (hs : vs.size = ps.size) :
    Begun a { tmps := (ps.zip vs).foldl (fun t (p, v) => t.setIfInBounds p v) a.tmps, defers := [] } ps vs := by
  simp only [psOk, Bool.and_eq_true] at hp
  have h := fold_set ps.toList vs.toList a.tmps hp.1 (fun p hm => by have := List.all_eq_true.1 hp.2 p hm; simp [Nat.blt] at this; omega) (by simpa using hs.symm)
  have e : (ps.zip vs).foldl (fun t (p, v) => t.setIfInBounds p v) a.tmps = (ps.toList.zip vs.toList).foldl (fun t (p, v) => t.setIfInBounds p v) a.tmps := by
    rw [← Array.foldl_toList, Array.toList_zip]
  refine ⟨rfl, by rw [e]; exact h.1, fun t ht => ?_, fun i p v h1 h2 => ?_⟩
  · show Array.getD _ t undef = a.tmps.getD t undef
    rw [e]
    refine h.2.1 t fun hm => ?_
    have := List.all_eq_true.1 ht t (by simpa using hm)
    simp at this
  · show Array.getD _ p undef = v
    rw [e]
    exact h.2.2 i p v (by simpa using h1) (by simpa using h2)
section
variable {r : Option Nat} {P : Program} {a : Act} {w : World} {own : Own} {Q : Exit → Act → World → Prop} {S D X : Type}
theorem fl_range_core {g : Operand} {ps : Array Tmp} {assign body : Code} {gf : FuncId} {lb : Array Value} {encs : X → Array Value} {n : Nat} {Ds' : List Nat} {dB : Nat} {mark : List Deferred}
    (K : List Nat) (j kD : Nat) (hjn : (!Nat.beq j 0 && !Nat.beq kD 0 && !Nat.beq j kD && !(K.any (Nat.beq j)) && !(K.any (Nat.beq kD)) && !(K.any (Nat.beq 0))) = true)
    (Rel : S → Own → World → Prop) (RelX : D → Own → World → Prop) (jump : D → Code) (bd : S → X → Option (S ⊕ D))
    (hz : a.tmps.size = n) (hp : psOk n ps.toList = true) (hg : a.eval g = .func (.func gf) #[] lb) (hf : CF P gf) {cargs : Nat → Array Value} (hca : ∀ l, #[Value.func (.yield l) #[] #[]] ++ lb = cargs l) (hps : ∀ x, (encs x).size = ps.size)
    (hst : ∀ s ox ox' w w', Evo [j] ox ox' w w' → Rel s ox w → Rel s ox' w') (hstX : ∀ d ox ox' w w', Evo [j] ox ox' w w' → RelX d ox w → RelX d ox' w')
    (s0 : S) (z : S ⊕ D)
    (enter : ∀ fn, ∃ (l : Nat) (w1 : World) (own1 : Own), (Instr.enterLoop fn a.tmps ps assign body r).run P w = .ok (l, mark) w1 ∧ w1.heap[l]? = some (.loop { state := .ready, pending := none, fn, tmps := a.tmps, params := ps, assign, body, defers := dB }) ∧
      Evo [] own own1 w w1 ∧ own1 l = j ∧ MkO own1 kD w1 Ds' ∧ Rel s0 own1 w1)
    (hmk : mark ++ a.defers = mkD Ds')
    (hcall : ∀ (l : Nat) (own1 : Own) (w1 : World) (J : Sq (S ⊕ D)), Evo [] own own1 w w1 → SqO J (forth own1 (look0 (kj j K))) 1 w1 (.inl s0) → Rounds P l encs (yb bd) J →
      Calls P gf (cargs l) w1 (fun e w' => ∃ (v : Value) (own' : Own), e = .returned v ∧ SqO J own' 1 w' z))
    (hbody : ∀ (l : Nat) (s : S) (x : X) (zz : S ⊕ D) (ox : Own) (ar : Act) (wr : World), Rel s ox wr → MkO ox kD wr Ds' → RcO ox j wr l → bd s x = some zz → Begun a ar ps (encs x) →
      ∀ (Q1 : Exit → Act → World → Prop), (∀ a' w' ox', Evo K ox ox' wr w' → (∀ w2 ox2, Evo [j] ox' ox2 w' w2 → RcO ox2 j w2 l → body.wpIn (RF (some l)) 0 P (RdPost K zz jump Rel RelX ox2 w2) a' w2) → Q1 .normal a' w') →
        assign.wpIn (RF (some l)) 0 P Q1 ar wr)
    (hdone : ∀ (s' : S) (a' : Act) (ox : Own) (w' : World), z = .inl s' → a'.defers = mkD Ds' → a'.tmps.size = n → (∀ t, a'.eval (.tmp t) = a.eval (.tmp t)) → MkO ox kD w' Ds' → Rel s' ox w' → Q .normal a' w')
    (hjump : ∀ (d : D) (a' : Act) (ox : Own) (w' : World), z = .inr d → a'.defers = mkD Ds' → a'.tmps.size = n → (∀ t, a'.eval (.tmp t) = a.eval (.tmp t)) → MkO ox kD w' Ds' → RelX d ox w' → (jump d).wpIn (RF r) 0 P Q a' w') :
    (Code.rangeFunc g ps assign body).wpIn (RF r) 0 P Q a w := by
  simp only [Bool.and_eq_true, Bool.not_eq_true', Nat.beq_eq_true_eq] at hjn
  obtain ⟨⟨⟨⟨⟨hj0, hkD0⟩, hjkD⟩, hjK⟩, hDK⟩, h0K⟩ := hjn
  have nb : ∀ {x y : Nat}, Nat.beq x y = false → x ≠ y := fun h e => by subst e; simp at h
  have nm : ∀ {x : Nat}, K.any (Nat.beq x) = false → x ∉ K := @fun x h hm => by
    have : K.any (Nat.beq x) = true := List.any_eq_true.2 ⟨x, hm, by simp⟩
    rw [h] at this; cases this
  replace hj0 := nb hj0
  replace hkD0 := nb hkD0
  replace hjkD := nb hjkD
  replace hjK := nm hjK
  replace hDK := nm hDK
  replace h0K := nm h0K
  refine wpIn_rangeFunc ?_
  intro fn _
  obtain ⟨l, w1, own1, he, hl, hev, hlj, hmks, hrel⟩ := enter fn
  obtain ⟨rec, hrec⟩ : ∃ rec : LoopState → Option Code → Loop, rec = fun st pe => { state := st, pending := pe, fn, tmps := a.tmps, params := ps, assign, body, defers := dB } := ⟨_, rfl⟩
  have hl : w1.heap[l]? = some (.loop (rec .ready none)) := by rw [hrec]; exact hl
  have hjD : kD ∉ [j] := by simp [Ne.symm hjkD]
  -- what holds between two rounds
  let Jp : S ⊕ D → (Nat → Prop) → (Nat → Prop) → World → Prop := fun z M U w => ∃ ox : Own, (∀ b, b < w.heap.size → ¬ U b → ox b = j) ∧ (∀ b, b < w.heap.size → ox b ∈ K → M b) ∧ ox l = j ∧ U l ∧ M l ∧ MkO ox kD w Ds' ∧
    (match z with
    | .inl s => Rel s ox w ∧ w.heap[l]? = some (.loop (rec .ready none))
    | .inr d => RelX d ox w ∧ w.heap[l]? = some (.loop (rec .done (some (jump d)))))
  have hlt : ∀ {z M U w}, Jp z M U w → l < w.heap.size := by
    rintro z M U w ⟨ox, _, _, _, _, _, _, h⟩
    cases z with
    | inl s => exact (Array.getElem?_eq_some_iff.1 h.2).1
    | inr d => exact (Array.getElem?_eq_some_iff.1 h.2).1
  let J : Sq (S ⊕ D) := ⟨Jp, by
    intro s M U M' U' w w' hJ h1 h2 h3 h4 h5 h6
    have hltl := hlt hJ
    obtain ⟨ox, g1, g2, g3, g4, g5, g6, g7⟩ := hJ
    have hE : Evo [j] ox (fun b => if b < w.heap.size ∧ ¬ (ox b = j ∧ b ≠ l) then ox b else j) w w' := ⟨h1, h2, h3, h4, fun b hb hT => by
      have hU : U b := Classical.byContradiction fun hn => by
        have e := g1 b hb hn
        rw [e] at hT; exact hj0 (hT (by simp))
      have hne : ¬ (ox b = j ∧ b ≠ l) := fun e => by rw [e.1] at hT; exact hj0 (hT (by simp))
      exact ⟨if_pos ⟨hb, hne⟩, (h5 b hb hU).2⟩⟩
    refine ⟨_, ?_, ?_, ?_, (h5 l hltl g4).1, h6 l hltl g5, g6.evo hjD hE, ?_⟩
    · intro b hb hn
      show (if _ then _ else _) = j
      split
      · rename_i hc
        exact g1 b hc.1 fun hU => hn (h5 b hc.1 hU).1
      · rfl
    · intro b hb hm
      have hm : (if b < w.heap.size ∧ ¬ (ox b = j ∧ b ≠ l) then ox b else j) ∈ K := hm
      split at hm
      · rename_i hc
        exact h6 b hc.1 (g2 b hc.1 hm)
      · exact (hjK hm).elim
    · show (if _ then _ else _) = j
      split
      · exact g3
      · rfl
    · have hh := (h5 l hltl g4).2
      cases s with
      | inl s => exact ⟨hst _ _ _ _ _ hE g7.1, hh.trans g7.2⟩
      | inr d => exact ⟨hstX _ _ _ _ _ hE g7.1, hh.trans g7.2⟩⟩
  have hJ1 : SqO J (forth own1 (look0 (kj j K))) 1 w1 (.inl s0) := by
    refine ⟨by decide, own1, ?_, ?_, hlj, ?_, ?_, hmks, hrel, hl⟩
    · intro b hb hn
      exfalso
      have hn : ¬ (look0 (kj j K) (own1 b) = 1 ∨ look0 (kj j K) (own1 b) = 0) := hn
      rw [look0_kj] at hn
      split at hn <;> simp at hn
    · intro b hb hm
      show look0 (kj j K) (own1 b) = 1
      rw [look0_kj, if_pos (List.mem_cons_of_mem _ hm)]
    · left
      show look0 (kj j K) (own1 l) = 1
      rw [look0_kj, hlj, if_pos (by simp)]
    · show look0 (kj j K) (own1 l) = 1
      rw [look0_kj, hlj, if_pos (by simp)]
  have hRd : Rounds P l encs (yb bd) J := by
    intro s x z M U w hJ hy
    have hltl := hlt hJ
    cases s with
    | inr d => cases hy
    | inl s =>
      obtain ⟨ox, g1, g2, g3, g4, g5, g6, g7, g8⟩ := hJ
      obtain ⟨zz, hbd, hzz⟩ : ∃ zz, bd s x = some zz ∧ z = (match zz with | .inl s' => (true, .inl s') | .inr d => (false, .inr d)) := by
        have hy : (bd s x).map _ = some z := hy
        cases hb : bd s x with
        | none => rw [hb] at hy; cases hy
        | some zz => rw [hb] at hy; injection hy with hy; exact ⟨zz, rfl, hy.symm⟩
      have hyy := run_yield (P := P) (args := encs x) g8 (by rw [hrec]; exact hps x)
      rw [hrec] at hyy
      refine ⟨_, _, _, _, hyy, roundIn_of_wpIn trivial ?_⟩
      have hbg : Begun a { tmps := (ps.zip (encs x)).foldl (fun t (p, v) => t.setIfInBounds p v) a.tmps, defers := [] } ps (encs x) := begun (by rw [hz]; exact hp) (hps x)
      refine hbody l s x zz ox _ w g7 g6 ⟨g3, _, g8⟩ hbd hbg _ ?_
      intro a' w' ox' hE1 hk1
      have hl' := hE1.keep l hltl (fun hm => by rw [g3] at hm; exact (hjK hm).elim)
      have hll : w'.heap[l]? = some (.loop (rec .ready none)) := hl'.2.trans g8
      refine ⟨_, run_beginRound hll (by rw [hrec]), ?_⟩
      have hlt' : l < w'.heap.size := (Array.getElem?_eq_some_iff.1 hll).1
      have hE2 : Evo [j] ox' ox' w' (w'.putObj l (.loop { rec .ready none with state := .busy })) := Evo.put_ (hl'.1.trans g3) hj0
      have hl2 : (w'.putObj l (.loop { rec .ready none with state := .busy })).heap[l]? = some (.loop { rec .ready none with state := .busy }) := World.putObj_heap_same hlt'
      refine wpIn_mono (hk1 _ _ hE2 ⟨hl'.1.trans g3, _, hl2⟩) ?_
      -- the end of a round
      have fin : ∀ (jp : Option Code) (ox3 : Own) (w3 : World), Evo K ox' ox3 (w'.putObj l (.loop { rec .ready none with state := .busy })) w3 →
          (Instr.endRound l jp).run P w3 = .ok (.bool jp.isNone) (w3.putObj l (.loop (rec (if jp.isNone then .ready else .done) jp))) ∧
          Evo [j] ox3 ox3 w3 (w3.putObj l (.loop (rec (if jp.isNone then .ready else .done) jp))) ∧
          (w3.putObj l (.loop (rec (if jp.isNone then .ready else .done) jp))).heap[l]? = some (.loop (rec (if jp.isNone then .ready else .done) jp)) ∧
          (∀ b, b < w.heap.size → ¬ M b → (w3.putObj l (.loop (rec (if jp.isNone then .ready else .done) jp))).heap[b]? = w.heap[b]?) ∧ w.heap.size ≤ w3.heap.size ∧ w3.os = w.os ∧ w3.tape = w.tape ∧ w3.output = w.output ∧
          (∀ b, b < w3.heap.size → ¬ (U b ∨ w.heap.size ≤ b) → ox3 b = j) ∧ (∀ b, b < w3.heap.size → ox3 b ∈ K → M b ∨ w.heap.size ≤ b) ∧ ox3 l = j ∧ MkO ox3 kD w3 Ds' := by
        intro jp ox3 w3 hE3
        have hl3 := hE3.keep l (by simpa using hlt') (fun hm => by rw [hl'.1, g3] at hm; exact (hjK hm).elim)
        have hend := run_endRound (P := P) jp (hl3.2.trans hl2)
        rw [hrec] at hend ⊢
        have hkeep : ∀ b, b < w.heap.size → ox b ∉ K → ox3 b = ox b ∧ (b ≠ l → w3.heap[b]? = w.heap[b]?) := by
          intro b hb hn
          have k1 := hE1.keep b hb (fun hm => (hn hm).elim)
          have k3 := hE3.keep b (by simpa using Nat.lt_of_lt_of_le hb hE1.size) (fun hm => by rw [k1.1] at hm; exact (hn hm).elim)
          exact ⟨k3.1.trans k1.1, fun hne => k3.2.trans ((World.putObj_heap_other hne).trans k1.2)⟩
        have hx3l : ox3 l = j := hl3.1.trans (hl'.1.trans g3)
        refine ⟨hend, Evo.put_ hx3l hj0, World.putObj_heap_same (Array.getElem?_eq_some_iff.1 (hl3.2.trans hl2)).1, fun b hb hn => ?_, Nat.le_trans hE1.size (by have := hE3.size; simpa using this), hE3.os.trans hE1.os, hE3.tape.trans hE1.tape, hE3.output.trans hE1.output, ?_, ?_, hx3l, (g6.evo hDK hE1).evo hjD hE2 |>.evo hDK hE3⟩
        · have hne : b ≠ l := fun e => by subst e; exact hn g5
          exact (World.putObj_heap_other hne).trans ((hkeep b hb fun hm => hn (g2 b hb hm)).2 hne)
        · intro b hb hn
          have hlt : b < w.heap.size := Nat.lt_of_not_le fun h => hn (.inr h)
          have hj := g1 b hlt fun hU => hn (.inl hU)
          exact ((hkeep b hlt (by rw [hj]; exact hjK)).1).trans hj
        · intro b hb hm
          by_cases hlt : b < w.heap.size
          · left
            by_cases hk : ox b ∈ K
            · exact g2 b hlt hk
            · rw [(hkeep b hlt hk).1] at hm; exact (hk hm).elim
          · right; omega
      have exits : ∀ (e : Exit) (c : Code), codeOf e = some c → ∀ w3, (∃ d ox3, zz = .inr d ∧ codeOf e = some (jump d) ∧ Evo K ox' ox3 (w'.putObj l (.loop { rec .ready none with state := .busy })) w3 ∧ RelX d ox3 w3) →
          ∃ v w4, (Instr.endRound l (some c)).run P w3 = .ok v w4 ∧ ((Ending.returned v = .returned (.bool z.1)) ∧ w4.os = w.os ∧ w4.tape = w.tape ∧ w4.output = w.output ∧ w.heap.size ≤ w4.heap.size ∧ (∀ b, b < w.heap.size → ¬ M b → w4.heap[b]? = w.heap[b]?) ∧ J.J z.2 (fun b => M b ∨ w.heap.size ≤ b) (fun b => U b ∨ w.heap.size ≤ b) w4) := by
        rintro e c hc w3 ⟨d, ox3, rfl, hcd, hE3, hR3⟩
        rw [hc] at hcd
        injection hcd with hcd
        subst hcd
        obtain ⟨f1, f2, f3, f4, f5, f6, f7, f8, f9, f10, f11, f12⟩ := fin (some (jump d)) ox3 w3 hE3
        subst hzz
        exact ⟨_, _, f1, rfl, f6, f7, f8, by simpa using f5, f4, ox3, by simpa using f9, by simpa using f10, f11, .inl g4, .inl g5, f12.evo hjD f2, hstX _ _ _ _ _ f2 hR3, f3⟩
      rintro e a3 w3 hp3
      cases e with
      | normal =>
        obtain ⟨s', ox3, rfl, hE3, hR3⟩ := hp3
        obtain ⟨f1, f2, f3, f4, f5, f6, f7, f8, f9, f10, f11, f12⟩ := fin none ox3 w3 hE3
        subst hzz
        exact ⟨_, _, f1, rfl, f6, f7, f8, by simpa using f5, f4, ox3, by simpa using f9, by simpa using f10, f11, .inl g4, .inl g5, f12.evo hjD f2, hst _ _ _ _ _ f2 hR3, f3⟩
      | ret => exact exits .ret _ rfl w3 hp3
      | exit id => exact exits (.exit id) _ rfl w3 hp3
      | goto t => exact exits (.goto t) _ rfl w3 hp3
      | panic ch => obtain ⟨d, ox3, _, hc, _⟩ := hp3; cases hc
      | outgrown => obtain ⟨d, ox3, _, hc, _⟩ := hp3; cases hc
  refine ⟨l, mark, w1, { target := .fn (.func gf) lb, args := #[.func (.yield l) #[] #[]] }, w1, gf, cargs l, w1, he, ?_, fun _ _ => trivial, ?_, fun hd => by simp [RF, Fence.wide] at hd, ?_⟩
  · simp only [resolve, hg]
    simp [go_sem]
  · have := hf (cargs l) w1
    rw [← hca] at this ⊢
    simp [invoke, go_sem, this]
  · have hc := hcall l own1 w1 J hev hJ1 hRd
    refine CallsIn.mono (F := RF r) (callsIn_wide.2 hc : CallsIn Fence.wide _ P gf _ w1 _) ?_
    rintro e w2 ⟨v, own2, rfl, _, ox, _, _, g3, _, _, g6, g7⟩
    cases z with
    | inl s' =>
      obtain ⟨g7, g8⟩ := g7
      have hend := run_endLoop (P := P) g8 (by rw [hrec]; simp)
      have hE : ∀ o, Evo [j] ox ox w2 (w2.putObj l o) := fun o => Evo.put_ g3 hj0
      rw [show (rec .ready none).pending = none from by rw [hrec]] at hend
      refine ⟨none, _, hend, ?_⟩
      exact hdone s' _ ox _ rfl hmk hz (fun _ => rfl) (g6.evo hjD (hE _)) (hst _ _ _ _ _ (hE _) g7)
    | inr d =>
      obtain ⟨g7, g8⟩ := g7
      have hend := run_endLoop (P := P) g8 (by rw [hrec]; simp)
      have hE : ∀ o, Evo [j] ox ox w2 (w2.putObj l o) := fun o => Evo.put_ g3 hj0
      rw [show (rec .done (some (jump d))).pending = some (jump d) from by rw [hrec]] at hend
      refine ⟨some (jump d), _, hend, ?_⟩
      exact hjump d _ ox _ rfl hmk hz (fun _ => rfl) (g6.evo hjD (hE _)) (hstX _ _ _ _ _ (hE _) g7)
theorem fl_range {g : Operand} {ps : Array Tmp} {assign body : Code} {gf : FuncId} {lb : Array Value} {encs : X → Array Value} {n : Nat} {Ds : List Nat}
    (K : List Nat) (j kD : Nat) (hjn : (!Nat.beq j 0 && !Nat.beq kD 0 && !Nat.beq j kD && !(K.any (Nat.beq j)) && !(K.any (Nat.beq kD)) && !(K.any (Nat.beq 0))) = true)
    (Rel : S → Own → World → Prop) (RelX : D → Own → World → Prop) (jump : D → Code) (bd : S → X → Option (S ⊕ D))
    (hz : a.tmps.size = n) (hp : psOk n ps.toList = true) (hg : a.eval g = .func (.func gf) #[] lb) (hf : CF P gf) {cargs : Nat → Array Value} (hca : ∀ l, #[Value.func (.yield l) #[] #[]] ++ lb = cargs l) (hps : ∀ x, (encs x).size = ps.size)
    (hd : a.defers = mkD Ds) (hmks : MkO own kD w Ds)
    (hst : ∀ s ox ox' w w', Evo [j] ox ox' w w' → Rel s ox w → Rel s ox' w') (hstX : ∀ d ox ox' w w', Evo [j] ox ox' w w' → RelX d ox w → RelX d ox' w')
    (s0 : S) (z : S ⊕ D) (h0 : Rel s0 own w)
    (hcall : ∀ (l : Nat) (own1 : Own) (w1 : World) (J : Sq (S ⊕ D)), Evo [] own own1 w w1 → SqO J (forth own1 (look0 (kj j K))) 1 w1 (.inl s0) → Rounds P l encs (yb bd) J →
      Calls P gf (cargs l) w1 (fun e w' => ∃ (v : Value) (own' : Own), e = .returned v ∧ SqO J own' 1 w' z))
    (hbody : ∀ (l : Nat) (s : S) (x : X) (zz : S ⊕ D) (ox : Own) (ar : Act) (wr : World) (Ds' : List Nat), Rel s ox wr → MkO ox kD wr Ds' → RcO ox j wr l → bd s x = some zz → Begun a ar ps (encs x) →
      ∀ (Q1 : Exit → Act → World → Prop), (∀ a' w' ox', Evo K ox ox' wr w' → (∀ w2 ox2, Evo [j] ox' ox2 w' w2 → RcO ox2 j w2 l → body.wpIn (RF (some l)) 0 P (RdPost K zz jump Rel RelX ox2 w2) a' w2) → Q1 .normal a' w') →
        assign.wpIn (RF (some l)) 0 P Q1 ar wr)
    (hdone : ∀ (s' : S) (a' : Act) (ox : Own) (w' : World) (Ds' : List Nat), z = .inl s' → a'.defers = mkD Ds' → a'.tmps.size = n → (∀ t, a'.eval (.tmp t) = a.eval (.tmp t)) → MkO ox kD w' Ds' → Rel s' ox w' → Q .normal a' w')
    (hjump : ∀ (d : D) (a' : Act) (ox : Own) (w' : World) (Ds' : List Nat), z = .inr d → a'.defers = mkD Ds' → a'.tmps.size = n → (∀ t, a'.eval (.tmp t) = a.eval (.tmp t)) → MkO ox kD w' Ds' → RelX d ox w' → (jump d).wpIn (RF none) 0 P Q a' w') :
    (Code.rangeFunc g ps assign body).wpIn (RF none) 0 P Q a w := by
  have hjn' := hjn
  simp only [Bool.and_eq_true, Bool.not_eq_true'] at hjn'
  have hjk : kD ≠ j := fun e => by have := hjn'.1.1.1.2; subst e; simp at this
  refine fl_range_core (Ds' := w.heap.size :: Ds) (dB := w.heap.size) (mark := [{ target := .collected w.heap.size, args := #[] }]) K j kD hjn Rel RelX jump bd hz hp hg hf hca hps hst hstX s0 z ?_ ?_ hcall
    (fun l s x zz ox ar wr h1 h2 h3 h4 h5 => hbody l s x zz ox ar wr _ h1 h2 h3 h4 h5) (fun s' a' ox w' h1 h2 h3 h4 h5 h6 => hdone s' a' ox w' _ h1 h2 h3 h4 h5 h6) (fun d a' ox w' h1 h2 h3 h4 h5 h6 => hjump d a' ox w' _ h1 h2 h3 h4 h5 h6)
  · intro fn
    let own1 : Own := fun b => if b = w.heap.size + 1 then j else if b = w.heap.size then kD else own b
    have hw0 : ∀ b, b < w.heap.size → ((w.alloc (.deferred (some []))).alloc (.loop { state := .ready, pending := none, fn, tmps := a.tmps, params := ps, assign, body, defers := w.heap.size })).heap[b]? = w.heap[b]? := fun b hb =>
      (Below.heap_alloc _ _ b (by simp; omega)).trans (Below.heap_alloc w _ b hb)
    have hE : Evo [] own own1 w ((w.alloc (.deferred (some []))).alloc (.loop { state := .ready, pending := none, fn, tmps := a.tmps, params := ps, assign, body, defers := w.heap.size })) :=
      ⟨rfl, rfl, rfl, by simp [World.size_alloc]; omega, fun b hb _ => ⟨by show (if _ then _ else _) = _; rw [if_neg (by omega), if_neg (by omega)], hw0 b hb⟩⟩
    refine ⟨w.heap.size + 1, _, own1, run_enterLoop_outer fn a.tmps ps assign body, ?_, hE, if_pos rfl, ?_, hst _ _ _ _ _ (hE.more (by simp)) h0⟩
    · have := World.alloc_heap_new (w.alloc (.deferred (some []))) (.loop { state := .ready, pending := none, fn, tmps := a.tmps, params := ps, assign, body, defers := w.heap.size })
      rwa [World.size_alloc] at this
    · have hm1 := hmks.evo (by simp) hE
      refine ⟨List.nodup_cons.2 ⟨fun hm => ?_, hm1.1⟩, fun D hD => ?_⟩
      · have := (Array.getElem?_eq_some_iff.1 (hmks.2 _ hm).2).1
        omega
      · rcases List.mem_cons.1 hD with rfl | hD
        · exact ⟨by show (if _ then _ else _) = _; rw [if_neg (by omega), if_pos rfl], (Below.heap_alloc _ _ _ (by simp)).trans (World.alloc_heap_new w _)⟩
        · exact hm1.2 D hD
  · rw [hd]; rfl
end
end Go.Proofs.Ytoccfdohlefifaa
