/-
  Rules for walking Go code by letters: a region, whatever the order of its operations, by one fact an operation. No program in sight.
-/
import Derived.Test.YtefhfbefgeadaaaInv
namespace Go.Proofs.Ytefhfbefgeadaaa
open Go.RowKit

abbrev Own := Nat → Nat

/-- Outside 'ex' what was there stays. -/
structure Ext (ex : Nat → Prop) (w w' : World) : Prop where
  os : w'.os = w.os
  tape : w'.tape = w.tape
  output : w'.output = w.output
  size : w.heap.size ≤ w'.heap.size
  block : ∀ b, b < w.heap.size → ¬ ex b → w'.heap[b]? = w.heap[b]?

theorem Ext.refl (ex : Nat → Prop) (w : World) : Ext ex w w := ⟨rfl, rfl, rfl, Nat.le_refl _, fun _ _ _ => rfl⟩
theorem Ext.below {ex : Nat → Prop} {w w' : World} {B : Nat} (h : Ext ex w w') (hs : B ≤ w.heap.size) (hB : ∀ b, b < B → ¬ ex b) : Below B w w' :=
  ⟨h.os, h.tape, h.output, h.size, fun b hb => h.block b (by omega) (hB b hb)⟩
theorem Ext.blk {ex : Nat → Prop} {w w' : World} {g : Nat} {t : TypeId} {cs : Array Value} (h : Ext ex w w') (hb : Blk w g t cs) (hg : ¬ ex g) : Blk w' g t cs := (h.block g hb.lt hg).trans hb

/-- One step: blocks of owners outside T stay, and stay theirs. -/
structure Evo (T : List Nat) (own own' : Own) (w w' : World) : Prop where
  os : w'.os = w.os
  tape : w'.tape = w.tape
  output : w'.output = w.output
  size : w.heap.size ≤ w'.heap.size
  keep : ∀ b, b < w.heap.size → own b ∉ T → own' b = own b ∧ w'.heap[b]? = w.heap[b]?

def newOwn (w : World) (k : Nat) (own : Own) : Own := fun b => if b < w.heap.size then own b else k
theorem Evo.refl (T : List Nat) (own : Own) (w : World) : Evo T own own w w := ⟨rfl, rfl, rfl, Nat.le_refl _, fun _ _ _ => ⟨rfl, rfl⟩⟩
theorem Evo.drew (T : List Nat) (own : Own) (w : World) : Evo T own own w w.drew := ⟨rfl, rfl, rfl, Nat.le_refl _, fun _ _ _ => ⟨rfl, rfl⟩⟩
theorem Evo.ofBelow {T : List Nat} {own : Own} {w w' : World} (k : Nat) (h : Below w.heap.size w w') : Evo T own (newOwn w k own) w w' :=
  ⟨h.os, h.tape, h.output, h.size, fun b hb _ => ⟨by simp [newOwn, hb], h.block b hb⟩⟩
theorem Evo.ofAlloc {T : List Nat} {own : Own} (w : World) (k : Nat) (o : Obj) : Evo T own (newOwn w k own) w (w.alloc o) :=
  Evo.ofBelow k ((Below.refl _ _).alloc (Nat.le_refl _) o)
theorem newOwn_new {w : World} {k : Nat} {own : Own} {b : Nat} (h : w.heap.size ≤ b) : newOwn w k own b = k := by simp [newOwn]; omega
/-- A store into a block of an owner in T, which becomes k's. -/
theorem Evo.ofSet {T : List Nat} {own : Own} {w w' : World} {g k : Nat} (hg : own g ∈ T) (h : w.grownBy w' (some g)) : Evo T own (fun b => if b < w.heap.size ∧ b ≠ g then own b else k) w w' :=
  ⟨h.os, h.tape, h.output, h.size, fun b hb hT => by
    have hne : b ≠ g := fun e => hT (by rw [e]; exact hg)
    exact ⟨by simp [hb, hne], h.block b hb (by simpa using hne)⟩⟩

/-- What is known of an operation, behind it: it stays, unless its owner is touched; 'deps' are the slots that it speaks of. -/
structure Fct where
  id : Nat
  deps : List Nat
  p : Own → Act → World → Prop
  st : ∀ {T : List Nat} {own own' : Own} {a a' : Act} {w w' : World}, id ∉ T → (∀ t ∈ deps, a'.eval (.tmp t) = a.eval (.tmp t)) → Evo T own own' w w' → p own a w → p own' a' w'

def Fct.any (k : Nat) : Fct := ⟨k, [], fun _ _ _ => True, fun _ _ _ h => h⟩
def Fct.val (k t : Nat) (V : Value) : Fct := ⟨k, [t], fun _ a _ => a.eval (.tmp t) = V, fun _ ha _ h => (ha t (by simp)).trans h⟩
/-- A new block. -/
def Fct.blk (k t base : Nat) (mk : Nat → Value) (ty : TypeId) (cs : Array Value) : Fct :=
  ⟨k, [t], fun own a w => ∃ g, a.eval (.tmp t) = mk g ∧ own g = k ∧ base ≤ g ∧ Blk w g ty cs, fun hk ha he ⟨g, hv, ho, hb, hc⟩ =>
    have h := he.keep g hc.lt (by rw [ho]; exact hk)
    ⟨g, (ha t (by simp)).trans hv, h.1.trans ho, hb, h.2.trans hc⟩⟩
/-- A block that was there. -/
def Fct.at_ (k g : Nat) (ty : TypeId) (cs : Array Value) : Fct :=
  ⟨k, [], fun own _ w => own g = k ∧ Blk w g ty cs, fun hk _ he ⟨ho, hc⟩ =>
    have h := he.keep g hc.lt (by rw [ho]; exact hk)
    ⟨h.1.trans ho, h.2.trans hc⟩⟩
/-- A value, and whatever is known of memory of its own. -/
def Fct.mem (k t base : Nat) (q : (Nat → Prop) → World → Value → Prop) (hq : ∀ S w w' v, (∀ b, S b → w'.heap[b]? = w.heap[b]?) → q S w v → q S w' v) : Fct :=
  ⟨k, [t], fun own a w => ∃ v, a.eval (.tmp t) = v ∧ ∃ S : Nat → Prop, (∀ b, S b → own b = k ∧ base ≤ b ∧ b < w.heap.size) ∧ q S w v, fun hk ha he ⟨v, hv, S, hS, h⟩ =>
    ⟨v, (ha t (by simp)).trans hv, S, fun b hb => ⟨(he.keep b (hS b hb).2.2 (by rw [(hS b hb).1]; exact hk)).1.trans (hS b hb).1, (hS b hb).2.1, Nat.lt_of_lt_of_le (hS b hb).2.2 he.size⟩,
      hq S _ _ v (fun b hb => (he.keep b (hS b hb).2.2 (by rw [(hS b hb).1]; exact hk)).2) h⟩⟩

structure OpD where
  reads : List Nat
  slots : List Nat
  fct : Fct

def fAt (ds : List OpD) (rs : List Fct) (j : Nat) : Fct := ((ds[j]?).map OpD.fct).getD ((rs[j - ds.length]?).getD (Fct.any j))
def tOf (kl : List (Nat × Nat)) (k : Nat) : List Nat := (kl.filter fun p => p.1 == k).map (·.2)
def canRead (N : Nat) (bs : List Nat) (kl : List (Nat × Nat)) (k j : Nat) : Bool :=
  (Nat.ble N j || (bs.getD k 0).testBit j) && kl.all fun p => !Nat.beq p.2 j || Nat.beq p.1 k || (bs.getD p.1 0).testBit k
def canSlot (bs : List Nat) (wr : List (Nat × Nat)) (k t : Nat) : Bool := wr.all fun p => !Nat.beq p.2 t || Nat.beq p.1 k || (bs.getD p.1 0).testBit k
def unOf (bs : List Nat) (o : Oper) : Nat := o.after.toList.foldl (fun s e => if Region.binds .any e then s ||| 2 ^ e.on ||| bs.getD e.on 0 else s) 0
def writersOf (ops : List Oper) (k : Nat) : List (Nat × Nat) :=
  match ops with
  | [] => []
  | o :: r => match o.dst with
    | some t => (k, t) :: writersOf r (k + 1)
    | none => writersOf r (k + 1)
def noTwice : List Nat → Bool
  | [] => true
  | x :: r => r.all (fun y => !Nat.beq x y) && noTwice r
def bsOk (bs : List Nat) (ops : List Oper) (k : Nat) : Bool :=
  match ops with
  | [] => true
  | o :: r => Nat.beq (bs.getD k 0) (unOf bs o) && (o.after.toList.all fun e => !Region.binds .any e || Nat.blt e.on k) && bsOk bs r (k + 1)
/-- Slot t is written by k itself, or by one that k waits for. -/
def canDep (bs : List Nat) (wr : List (Nat × Nat)) (k t : Nat) : Bool := wr.any fun p => Nat.beq p.2 t && (Nat.beq p.1 k || (bs.getD k 0).testBit p.1)
def dsOk (N : Nat) (bs : List Nat) (kl wr : List (Nat × Nat)) : List OpD → Nat → Bool
  | [], _ => true
  | d :: r, k => Nat.beq d.fct.id k && d.fct.deps.all (canDep bs wr k) && d.reads.all (canRead N bs kl k) && d.slots.all (canSlot bs wr k) && dsOk N bs kl wr r (k + 1)
def rsOk : List Fct → Nat → Bool
  | [], _ => true
  | f :: r, k => Nat.beq f.id k && f.deps.isEmpty && rsOk r (k + 1)
def rgCheck (n : Nat) (ops : List Oper) (ds : List OpD) (rs : List Fct) (kl : List (Nat × Nat)) (bs : List Nat) (oth : Nat) : Bool :=
  bsOk bs ops 0 && noTwice ((writersOf ops 0).map (·.2)) && (writersOf ops 0).all (fun p => Nat.blt p.2 n) && dsOk ops.length bs kl (writersOf ops 0) ds 0 && rsOk rs ops.length &&
  kl.all (fun p => Nat.blt p.2 oth && Nat.blt p.1 ops.length) && Nat.beq oth (ops.length + rs.length) && Nat.beq ds.length ops.length

def OpR (P : Program) (o : Oper) (a : Act) (w : World) (R : Value → World → Prop) : Prop :=
  o.wp P a w (fun a' w' => ∃ v, a' = a.put o.dst v ∧ R v w') (fun _ _ _ => False)
/-- The new state: the value in its slot, all other slots as they were. -/
def Put (a : Act) (dst : Option Tmp) (v : Value) (a' : Act) : Prop := (∀ d, dst = some d → a'.eval (.tmp d) = v) ∧ ∀ t, dst ≠ some t → a'.eval (.tmp t) = a.eval (.tmp t)
def Post (pu : Bool) (T : List Nat) (own : Own) (a : Act) (w : World) (f : Fct) (dst : Option Tmp) : Value → World → Prop :=
  fun v w' => (pu = true → w' = w) ∧ ∃ own', Evo T own own' w w' ∧ ∀ a', Put a dst v a' → f.p own' a' w'

def slotOf (ops : List Oper) (j : Nat) : Option Tmp := (ops[j]?).bind (·.dst)
def FactsAt (ds : List OpD) (rs : List Fct) (own : Own) (a : Act) (w : World) : List Nat → Prop
  | [] => True
  | j :: r => (fAt ds rs j).p own a w ∧ FactsAt ds rs own a w r
def SlotsAt (a0 a : Act) : List Nat → Prop
  | [] => True
  | t :: r => a.eval (.tmp t) = a0.eval (.tmp t) ∧ SlotsAt a0 a r

def StepGoal (P : Program) (pu : Bool) (T : List Nat) (ops : List Oper) (own : Own) (a : Act) (w : World) (f : Fct) (o : Oper) : Prop :=
  (Region.wanted o (yielded ops.toArray a.tmps) = true → OpR P o a w (Post pu T own a w f o.dst)) ∧ (Region.wanted o (yielded ops.toArray a.tmps) = false → ∀ a', Put a o.dst undef a' → f.p own a' w)
def StepOk (P : Program) (pu : Bool) (kl : List (Nat × Nat)) (ops : List Oper) (ds : List OpD) (rs : List Fct) (a0 : Act) (w0 : World) (own0 : Own) (oth : Nat) (k : Nat) (o : Oper) (d : OpD) : Prop :=
  ∀ own a w, FactsAt ds rs own a w d.reads → SlotsAt a0 a d.slots → Ext (fun b => own0 b ≠ oth) w0 w → (∀ b, b < w0.heap.size → own0 b = oth → own b = oth) → StepGoal P pu (tOf kl k) ops own a w d.fct o
def Steps (P : Program) (pu : Bool) (kl : List (Nat × Nat)) (ops : List Oper) (ds : List OpD) (rs : List Fct) (a0 : Act) (w0 : World) (own0 : Own) (oth : Nat) : Nat → List Oper → List OpD → Prop
  | k, o :: r, d :: e => StepOk P pu kl ops ds rs a0 w0 own0 oth k o d ∧ Steps P pu kl ops ds rs a0 w0 own0 oth (k + 1) r e
  | _, _, _ => True

section
variable {P : Program} {pu : Bool} {kl : List (Nat × Nat)} {ops : List Oper} {ds : List OpD} {rs : List Fct} {a0 : Act} {w0 : World} {own0 : Own} {oth n : Nat} {bs : List Nat} {Q : Exit → Act → World → Prop}

theorem steps_cons {k : Nat} {o : Oper} {r : List Oper} {d : OpD} {e : List OpD} (h : StepOk P pu kl ops ds rs a0 w0 own0 oth k o d) (hr : Steps P pu kl ops ds rs a0 w0 own0 oth (k + 1) r e) :
    Steps P pu kl ops ds rs a0 w0 own0 oth k (o :: r) (d :: e) := ⟨h, hr⟩
theorem steps_nil {k : Nat} {e : List OpD} : Steps P pu kl ops ds rs a0 w0 own0 oth k [] e := by cases e <;> exact trivial

theorem steps_get : ∀ {l : List Oper} {e : List OpD} {k : Nat}, Steps P pu kl ops ds rs a0 w0 own0 oth k l e → ∀ {i : Nat} {o : Oper} {d : OpD}, l[i]? = some o → e[i]? = some d → StepOk P pu kl ops ds rs a0 w0 own0 oth (k + i) o d
  | [], _, _, _, i, o, d, ho, _ => by simp at ho
  | o' :: l, [], _, _, i, o, d, _, hd => by simp at hd
  | o' :: l, d' :: e, k, h, 0, o, d, ho, hd => by
    simp at ho hd
    subst ho hd
    exact h.1
  | o' :: l, d' :: e, k, h, i + 1, o, d, ho, hd => by
    have := steps_get h.2 (i := i) (by simpa using ho) (by simpa using hd)
    rwa [show k + 1 + i = k + (i + 1) from by omega] at this

theorem un_bit (bs : List Nat) (l : List Edge) : ∀ (s j : Nat), (l.foldl (fun s e => if Region.binds .any e then s ||| 2 ^ e.on ||| bs.getD e.on 0 else s) s).testBit j = true →
    s.testBit j = true ∨ ∃ e ∈ l, Region.binds .any e = true ∧ (e.on = j ∨ (bs.getD e.on 0).testBit j = true) := by
  induction l with
  | nil => intro s j h; exact .inl h
  | cons e l ih =>
    intro s j h
    rw [List.foldl_cons] at h
    rcases ih _ j h with h1 | ⟨e', he, hb, hj⟩
    · by_cases hb : Region.binds .any e = true
      · rw [if_pos hb, Nat.testBit_or, Nat.testBit_or, Nat.testBit_two_pow] at h1
        simp only [Bool.or_eq_true, decide_eq_true_eq] at h1
        rcases h1 with (h1 | h1) | h1
        · exact .inl h1
        · exact .inr ⟨e, by simp, hb, .inl h1⟩
        · exact .inr ⟨e, by simp, hb, .inr h1⟩
      · rw [if_neg hb] at h1; exact .inl h1
    · exact .inr ⟨e', by simp [he], hb, hj⟩

theorem bsOk_spec : ∀ {l : List Oper} {k : Nat}, bsOk bs l k = true → ∀ {i : Nat} {o : Oper}, l[i]? = some o →
    bs.getD (k + i) 0 = unOf bs o ∧ ∀ e ∈ o.after, Region.binds .any e = true → e.on < k + i
  | [], _, _, i, o, ho => by simp at ho
  | o' :: l, k, h, 0, o, ho => by
    simp at ho
    subst ho
    simp only [bsOk, Bool.and_eq_true] at h
    refine ⟨Nat.eq_of_beq_eq_true h.1.1, fun e he hb => ?_⟩
    have := List.all_eq_true.1 h.1.2 e (by simpa using he)
    simp [hb, Nat.blt] at this
    omega
  | o' :: l, k, h, i + 1, o, ho => by
    simp only [bsOk, Bool.and_eq_true] at h
    have := bsOk_spec h.2 (i := i) (by simpa using ho)
    rwa [show k + 1 + i = k + (i + 1) from by omega] at this

/-- A set of operations that holds with each one those that it waits for. -/
def Clo (ops : List Oper) (D : Nat → Bool) : Prop := ∀ j o, ops[j]? = some o → D j = true → ∀ e ∈ o.after, Region.binds .any e = true → D e.on = true

theorem anc_done (hb : bsOk bs ops 0 = true) {D : Nat → Bool} (hc : Clo ops D) : ∀ k o, ops[k]? = some o → (∀ e ∈ o.after, Region.binds .any e = true → D e.on = true) → ∀ j, (bs.getD k 0).testBit j = true → D j = true := by
  intro k
  induction k using Nat.strongRecOn with
  | _ k ih =>
    intro o ho hp j hj
    obtain ⟨hu, hlt⟩ := bsOk_spec hb ho
    rw [Nat.zero_add] at hu hlt
    rw [hu] at hj
    rcases un_bit bs _ 0 j hj with h | ⟨e, he, hbe, h | h⟩
    · simp at h
    · rw [← h]; exact hp e (by simpa using he) hbe
    · have he' : e ∈ o.after := by simpa using he
      have hD := hp e he' hbe
      have hl := hlt e he' hbe
      cases hoe : ops[e.on]? with
      | none =>
        exfalso
        have h1 : ops.length ≤ e.on := List.getElem?_eq_none_iff.1 hoe
        have h2 : k < ops.length := by
          rcases Nat.lt_or_ge k ops.length with h' | h'
          · exact h'
          · rw [List.getElem?_eq_none h'] at ho; cases ho
        omega
      | some o' => exact ih e.on hl o' hoe (hc e.on o' hoe hD) j h

theorem dsOk_spec {N : Nat} {wr : List (Nat × Nat)} : ∀ {l : List OpD} {k : Nat}, dsOk N bs kl wr l k = true → ∀ {i : Nat} {d : OpD}, l[i]? = some d →
    d.fct.id = k + i ∧ (∀ j ∈ d.reads, canRead N bs kl (k + i) j = true) ∧ (∀ t ∈ d.slots, canSlot bs wr (k + i) t = true) ∧ ∀ t ∈ d.fct.deps, canDep bs wr (k + i) t = true
  | [], _, _, i, d, hd => by simp at hd
  | d' :: l, k, h, 0, d, hd => by
    simp at hd
    subst hd
    simp only [dsOk, Bool.and_eq_true] at h
    exact ⟨Nat.eq_of_beq_eq_true h.1.1.1.1, fun j hj => List.all_eq_true.1 h.1.1.2 j hj, fun t ht => List.all_eq_true.1 h.1.2 t ht, fun t ht => List.all_eq_true.1 h.1.1.1.2 t ht⟩
  | d' :: l, k, h, i + 1, d, hd => by
    simp only [dsOk, Bool.and_eq_true] at h
    have := dsOk_spec h.2 (i := i) (by simpa using hd)
    rwa [show k + 1 + i = k + (i + 1) from by omega] at this
theorem rsOk_spec : ∀ {l : List Fct} {k : Nat}, rsOk l k = true → ∀ {i : Nat} {f : Fct}, l[i]? = some f → f.id = k + i ∧ f.deps = []
  | [], _, _, i, d, hd => by simp at hd
  | d' :: l, k, h, 0, d, hd => by
    simp at hd
    subst hd
    simp only [rsOk, Bool.and_eq_true] at h
    exact ⟨Nat.eq_of_beq_eq_true h.1.1, by simpa using h.1.2⟩
  | d' :: l, k, h, i + 1, d, hd => by
    simp only [rsOk, Bool.and_eq_true] at h
    have := rsOk_spec h.2 (i := i) (by simpa using hd)
    rwa [show k + 1 + i = k + (i + 1) from by omega] at this

theorem writers_mem : ∀ {l : List Oper} {k i t : Nat}, (i, t) ∈ writersOf l k ↔ ∃ o, k ≤ i ∧ l[i - k]? = some o ∧ o.dst = some t
  | [], k, i, t => by simp [writersOf]
  | o :: r, k, i, t => by
    have ih := @writers_mem r (k + 1) i t
    have key : (∃ o', k + 1 ≤ i ∧ r[i - (k + 1)]? = some o' ∧ o'.dst = some t) ∨ (i = k ∧ o.dst = some t) ↔ ∃ o', k ≤ i ∧ (o :: r)[i - k]? = some o' ∧ o'.dst = some t := by
      constructor
      · rintro (⟨o', h1, h2, h3⟩ | ⟨rfl, h⟩)
        · refine ⟨o', by omega, ?_, h3⟩
          rw [show i - k = (i - (k + 1)) + 1 from by omega, List.getElem?_cons_succ]; exact h2
        · exact ⟨o, Nat.le_refl _, by simp, h⟩
      · rintro ⟨o', h1, h2, h3⟩
        rcases Nat.eq_or_lt_of_le h1 with h | h
        · subst h
          simp at h2
          subst h2
          exact .inr ⟨rfl, h3⟩
        · rw [show i - k = (i - (k + 1)) + 1 from by omega, List.getElem?_cons_succ] at h2
          exact .inl ⟨o', h, h2, h3⟩
    rw [← key, ← ih]
    cases hd : o.dst with
    | none => simp [writersOf, hd]
    | some t' =>
      simp only [writersOf, hd, List.mem_cons, Prod.mk.injEq, Option.some.injEq]
      constructor
      · rintro (⟨h1, h2⟩ | h)
        · exact .inr ⟨h1, h2.symm⟩
        · exact .inl h
      · rintro (h | ⟨h1, h2⟩)
        · exact .inr h
        · exact .inl ⟨h1, h2.symm⟩
theorem noTwice_spec : ∀ {l : List (Nat × Nat)}, noTwice (l.map (·.2)) = true → ∀ {i j t : Nat}, (i, t) ∈ l → (j, t) ∈ l → i = j
  | [], _, i, j, t, hi, _ => by cases hi
  | (a, b) :: r, h, i, j, t, hi, hj => by
    simp only [List.map_cons, noTwice, Bool.and_eq_true] at h
    have hn : ∀ m, (m, b) ∈ r → False := fun m hm => by
      have := List.all_eq_true.1 h.1 b (List.mem_map.2 ⟨(m, b), hm, rfl⟩)
      simp at this
    rcases List.mem_cons.1 hi with h1 | h1
    · rcases List.mem_cons.1 hj with h2 | h2
      · injection h1 with h1 h1'; injection h2 with h2 h2'; omega
      · injection h1 with h1 h1'; subst h1'; exact (hn _ h2).elim
    · rcases List.mem_cons.1 hj with h2 | h2
      · injection h2 with h2 h2'; subst h2'; exact (hn _ h1).elim
      · exact noTwice_spec h.2 h1 h2

/-- What holds while the operations of D are done. -/
structure RI (pu : Bool) (kl : List (Nat × Nat)) (ops : List Oper) (ds : List OpD) (rs : List Fct) (a0 : Act) (w0 : World) (own0 : Own) (oth n : Nat) (wS : World) (D : Nat → Bool) (own : Own) (a : Act) (w : World) : Prop where
  clo : Clo ops D
  dom : ∀ j, D j = true → j < ops.length
  dfr : a.defers = []
  siz : a.tmps.size = n
  keep : ∀ t, (∀ i, (i, t) ∈ writersOf ops 0 → D i = false) → a.tmps.getD t undef = a0.tmps.getD t undef
  fact : ∀ j, (ops.length ≤ j ∨ D j = true) → (∀ i, (i, j) ∈ kl → D i = false) → (fAt ds rs j).p own a w
  oth_ : ∀ b, b < w0.heap.size → own0 b = oth → own b = oth
  ext : Ext (fun b => own0 b ≠ oth) w0 w
  pure_ : pu = true → w = wS

theorem put_getD {a : Act} {t s : Nat} {v : Value} (h : s < a.tmps.size) : (a.put (some s) v).tmps.getD t undef = if t = s then v else a.tmps.getD t undef := by
  simp only [Act.put, Array.getD_eq_getD_getElem?, Array.getElem?_setIfInBounds]
  by_cases hts : s = t
  · subst hts; simp [h]
  · rw [if_neg hts, if_neg (Ne.symm hts)]
theorem put_defers {a : Act} {d : Option Tmp} {v : Value} : (a.put d v).defers = a.defers := by cases d <;> rfl
theorem put_size {a : Act} {d : Option Tmp} {v : Value} : (a.put d v).tmps.size = a.tmps.size := by cases d <;> simp [Act.put]

theorem oper_wp_q {o : Oper} {a : Act} {w : World} {K K' : Act → World → Prop} (hk : ∀ a w, K a w → K' a w) (h : o.wp P a w K (fun _ _ _ => False)) : o.wp P a w K' Q := by
  unfold Oper.wp at *
  generalize (execOp a.eval o).run P w = r at *
  cases r with
  | ok n w' =>
    cases n <;> simp only [Oper.upon] at h ⊢ <;>
      first
        | exact hk _ _ h
        | exact Calls.mono h (fun e w'' he => by
            cases e with
            | returned v => exact hk _ _ he
            | panicked c => exact he.elim
            | outgrown => obtain ⟨_, _, hf⟩ := he; exact hf.elim)
        | exact Rows.mono h (fun _ _ he => hk _ _ he)
  | halt x w' => cases x <;> simp only [Oper.upon] at h

theorem fAt_lt {j : Nat} {d : OpD} (h : ds[j]? = some d) : fAt ds rs j = d.fct := by simp [fAt, h]
theorem fAt_id (hd : dsOk ops.length bs kl (writersOf ops 0) ds 0 = true) (hr : rsOk rs ops.length = true) (hl : ds.length = ops.length) (j : Nat) : (fAt ds rs j).id = j := by
  cases h : ds[j]? with
  | some d => rw [fAt_lt h, (dsOk_spec hd h).1, Nat.zero_add]
  | none =>
    have hlt : ds.length ≤ j := List.getElem?_eq_none_iff.1 h
    cases h' : rs[j - ds.length]? with
    | some f =>
      simp only [fAt, h, Option.map_none, Option.getD_none, h', Option.getD_some]
      rw [(rsOk_spec hr h').1]
      omega
    | none => simp [fAt, h, h', Fct.any]

theorem tOf_mem {k j : Nat} : j ∈ tOf kl k ↔ (k, j) ∈ kl := by
  simp only [tOf, List.mem_map, List.mem_filter, beq_iff_eq]
  constructor
  · rintro ⟨⟨a, b⟩, ⟨h1, h2⟩, h3⟩; simp at h2 h3; subst h2 h3; exact h1
  · intro h; exact ⟨(k, j), ⟨h, rfl⟩, rfl⟩

theorem rg_step {wS : World} (hc : rgCheck n ops ds rs kl bs oth = true) (hst : Steps P pu kl ops ds rs a0 w0 own0 oth 0 ops ds)
    {D D' : Nat → Bool} {own : Own} {a : Act} {w : World} (hI : RI pu kl ops ds rs a0 w0 own0 oth n wS D own a w) {k : Nat} {o : Oper} (ho : ops[k]? = some o) (hk : D k = false)
    (hp : ∀ e ∈ o.after, Region.binds .any e = true → D e.on = true) (hD : ∀ j, D' j = (if j = k then true else D j)) :
    wpOp P ops.toArray Q k (fun a' w' => ∃ own', RI pu kl ops ds rs a0 w0 own0 oth n wS D' own' a' w') a w := by
  simp only [rgCheck, Bool.and_eq_true] at hc
  obtain ⟨⟨⟨⟨⟨⟨⟨hb, hnt⟩, hwn⟩, hds⟩, hrs⟩, hkl⟩, hoth⟩, hlen⟩ := hc
  have hlen := Nat.eq_of_beq_eq_true hlen
  have hoth := Nat.eq_of_beq_eq_true hoth
  have hkN : k < ops.length := by
    rcases Nat.lt_or_ge k ops.length with h | h
    · exact h
    · rw [List.getElem?_eq_none h] at ho; cases ho
  obtain ⟨d, hd⟩ : ∃ d, ds[k]? = some d := ⟨ds[k]'(by omega), List.getElem?_eq_getElem (by omega)⟩
  obtain ⟨hid, hrd, hsl, hdep⟩ := dsOk_spec hds hd
  rw [Nat.zero_add] at hid hrd hsl hdep
  -- descendants are not done
  have hdesc : ∀ p, p < ops.length → (bs.getD p 0).testBit k = true → D p = false := by
    intro p hpN hpk
    cases hDp : D p with
    | false => rfl
    | true =>
      exfalso
      obtain ⟨op, hop⟩ : ∃ op, ops[p]? = some op := ⟨ops[p], List.getElem?_eq_getElem hpN⟩
      have := anc_done hb hI.clo p op hop (hI.clo p op hop hDp) k hpk
      rw [hk] at this; cases this
  have hanc := anc_done hb hI.clo k o ho hp
  have hfacts : ∀ l : List Nat, (∀ j ∈ l, canRead ops.length bs kl k j = true) → FactsAt ds rs own a w l := by
    intro l
    induction l with
    | nil => intro _; trivial
    | cons j r ih =>
      intro h
      refine ⟨?_, ih fun j' h' => h j' (by simp [h'])⟩
      have hj := h j (by simp)
      simp only [canRead, Bool.and_eq_true, Bool.or_eq_true] at hj
      refine hI.fact j ?_ ?_
      · rcases hj.1 with h1 | h1
        · exact .inl (Nat.le_of_ble_eq_true h1)
        · exact .inr (hanc j h1)
      · intro i hi
        have h2 := List.all_eq_true.1 hj.2 (i, j) hi
        have h3 := List.all_eq_true.1 hkl (i, j) hi
        simp only [Bool.and_eq_true, Nat.blt, Nat.ble_eq] at h3
        simp at h2
        rcases h2 with h2 | h2
        · rw [h2]; exact hk
        · exact hdesc i (by omega) (by simpa using h2)
  have hslots : ∀ l : List Nat, (∀ t ∈ l, canSlot bs (writersOf ops 0) k t = true) → SlotsAt a0 a l := by
    intro l
    induction l with
    | nil => intro _; trivial
    | cons t r ih =>
      intro h
      refine ⟨?_, ih fun j' h' => h j' (by simp [h'])⟩
      have hj := h t (by simp)
      refine hI.keep t fun i hi => ?_
      have h2 := List.all_eq_true.1 hj (i, t) hi
      simp at h2
      obtain ⟨oi, _, hoi, _⟩ := writers_mem.1 hi
      rw [Nat.sub_zero] at hoi
      have hiN : i < ops.length := by
        rcases Nat.lt_or_ge i ops.length with h | h
        · exact h
        · rw [List.getElem?_eq_none h] at hoi; cases hoi
      rcases h2 with h2 | h2
      · rw [h2]; exact hk
      · exact hdesc i hiN (by simpa using h2)
  have hS := steps_get hst ho hd
  rw [Nat.zero_add] at hS
  obtain ⟨hyes, hno⟩ := hS own a w (hfacts _ hrd) (hslots _ hsl) hI.ext hI.oth_
  have hclo : Clo ops D' := by
    intro j oj hoj hDj e he hbe
    rw [hD] at hDj ⊢
    by_cases hek : e.on = k
    · simp [hek]
    · rw [if_neg hek]
      by_cases hjk : j = k
      · subst hjk
        rw [ho] at hoj
        cases hoj
        exact hp e he hbe
      · rw [if_neg hjk] at hDj
        exact hI.clo j oj hoj hDj e he hbe
  have hdom : ∀ j, D' j = true → j < ops.length := by
    intro j hj
    rw [hD] at hj
    by_cases hjk : j = k
    · rw [hjk]; exact hkN
    · rw [if_neg hjk] at hj; exact hI.dom j hj
  have hDle : ∀ i, D' i = false → D i = false := by
    intro i hi
    rw [hD] at hi
    by_cases hik : i = k
    · rw [if_pos hik] at hi; cases hi
    · rwa [if_neg hik] at hi
  have hDk : D' k = true := by rw [hD]; simp
  have hothT : oth ∉ tOf kl k := by
    intro h
    have h3 := List.all_eq_true.1 hkl (k, oth) (tOf_mem.1 h)
    simp only [Bool.and_eq_true] at h3
    have := Nat.le_of_ble_eq_true h3.1
    omega
  -- the new state
  have hput : ∀ v : Value, Put a o.dst v (a.put o.dst v) := by
    intro v
    refine ⟨fun d' hd' => ?_, fun t ht => ?_⟩
    · have hmk : (k, d') ∈ writersOf ops 0 := writers_mem.2 ⟨o, Nat.zero_le _, by simpa using ho, hd'⟩
      have hsn := List.all_eq_true.1 hwn (k, d') hmk
      simp only [Nat.blt, Nat.ble_eq] at hsn
      rw [hd']
      show (a.put (some d') v).tmps.getD d' undef = v
      rw [put_getD (by rw [hI.siz]; omega), if_pos rfl]
    · show (a.put o.dst v).tmps.getD t undef = a.tmps.getD t undef
      cases hdst : o.dst with
      | none => rfl
      | some s =>
        have hmk : (k, s) ∈ writersOf ops 0 := writers_mem.2 ⟨o, Nat.zero_le _, by simpa using ho, hdst⟩
        have hsn := List.all_eq_true.1 hwn (k, s) hmk
        simp only [Nat.blt, Nat.ble_eq] at hsn
        have hne : t ≠ s := fun e => ht (by rw [hdst, e])
        rw [put_getD (by rw [hI.siz]; omega), if_neg hne]
  have hnew : ∀ (own' : Own) (v : Value) (w' : World), (pu = true → w' = w) → Evo (tOf kl k) own own' w w' → d.fct.p own' (a.put o.dst v) w' →
      RI pu kl ops ds rs a0 w0 own0 oth n wS D' own' (a.put o.dst v) w' := by
    intro own' v w' hpu hev hf
    refine ⟨hclo, hdom, by rw [put_defers]; exact hI.dfr, by rw [put_size]; exact hI.siz, ?_, ?_, ?_, ?_, fun h => (hpu h).trans (hI.pure_ h)⟩
    · intro t ht
      have h1 := hI.keep t fun i hi => hDle i (ht i hi)
      rw [← h1]
      refine (hput v).2 t fun e => ?_
      have hmk : (k, t) ∈ writersOf ops 0 := writers_mem.2 ⟨o, Nat.zero_le _, by simpa using ho, e⟩
      have := ht k hmk
      rw [hDk] at this; cases this
    · intro j hj hkil
      by_cases hjk : j = k
      · subst hjk
        rw [fAt_lt hd]
        exact hf
      · have hjT : j ∉ tOf kl k := fun h => by
          have := hkil k (tOf_mem.1 h); rw [hDk] at this; cases this
        have hj' : ops.length ≤ j ∨ D j = true := by
          rcases hj with h | h
          · exact .inl h
          · rw [hD, if_neg hjk] at h; exact .inr h
        refine (fAt ds rs j).st (by rw [fAt_id hds hrs hlen]; exact hjT) ?_ hev (hI.fact j hj' fun i hi => hDle i (hkil i hi))
        intro t ht
        refine (hput v).2 t fun e => ?_
        have hmk : (k, t) ∈ writersOf ops 0 := writers_mem.2 ⟨o, Nat.zero_le _, by simpa using ho, e⟩
        cases hdj : ds[j]? with
        | none =>
          have hlt : ds.length ≤ j := List.getElem?_eq_none_iff.1 hdj
          cases h' : rs[j - ds.length]? with
          | some f =>
            simp only [fAt, hdj, Option.map_none, Option.getD_none, h', Option.getD_some] at ht
            rw [(rsOk_spec hrs h').2] at ht
            cases ht
          | none => simp [fAt, hdj, h', Fct.any] at ht
        | some dj =>
          rw [fAt_lt hdj] at ht
          have hjl : j < ds.length := (List.getElem?_eq_some_iff.1 hdj).1
          have hDj : D j = true := by
            rcases hj' with h | h
            · omega
            · exact h
          have hcd := (dsOk_spec hds hdj).2.2.2 t ht
          rw [Nat.zero_add] at hcd
          obtain ⟨⟨i, t'⟩, hi, hit⟩ := List.any_eq_true.1 hcd
          simp only [Bool.and_eq_true, Bool.or_eq_true] at hit
          have ht' : t' = t := Nat.eq_of_beq_eq_true hit.1
          subst ht'
          have hik : i = k := noTwice_spec hnt hi hmk
          subst hik
          rcases hit.2 with h | h
          · exact hjk (Nat.eq_of_beq_eq_true h).symm
          · obtain ⟨oj, hoj⟩ : ∃ oj, ops[j]? = some oj := ⟨ops[j]'(by omega), List.getElem?_eq_getElem (by omega)⟩
            have := anc_done hb hI.clo j oj hoj (hI.clo j oj hoj hDj) i h
            rw [hk] at this; cases this
    · intro b hb0 hbo
      have h1 := hI.oth_ b hb0 hbo
      exact (hev.keep b (Nat.lt_of_lt_of_le hb0 hI.ext.size) (by rw [h1]; exact hothT)).1.trans h1
    · refine ⟨hev.os.trans hI.ext.os, hev.tape.trans hI.ext.tape, hev.output.trans hI.ext.output, Nat.le_trans hI.ext.size hev.size, fun b hb0 hbo => ?_⟩
      have hbo' : own0 b = oth := Classical.not_not.1 hbo
      have h1 := hI.oth_ b hb0 hbo'
      exact (hev.keep b (Nat.lt_of_lt_of_le hb0 hI.ext.size) (by rw [h1]; exact hothT)).2.trans (hI.ext.block b hb0 hbo)
  unfold wpOp
  have ho' : ops.toArray[k]? = some o := by simpa using ho
  simp only [ho']
  split
  · rename_i hw
    refine .inl (oper_wp_q ?_ (hyes hw))
    rintro a' w' ⟨v, rfl, hpu, own', hev, hf⟩
    exact ⟨own', hnew own' v w' hpu hev (hf _ (hput v))⟩
  · rename_i hw
    exact ⟨own, hnew own undef w (fun _ => rfl) (Evo.refl _ _ _) (hno (by simpa using hw) _ (hput undef))⟩

/-- What is known behind the region. -/
def RgFin (pu draw : Bool) (kl : List (Nat × Nat)) (ops : List Oper) (ds : List OpD) (rs : List Fct) (a0 : Act) (w0 : World) (own0 : Own) (oth n : Nat) (G : Act → World → Prop) : Prop :=
  ∀ own a w, a.defers = [] → a.tmps.size = n → (∀ t, ((writersOf ops 0).all fun p => !Nat.beq p.2 t) = true → a.eval (.tmp t) = a0.eval (.tmp t)) →
    (∀ l : List Nat, (l.all fun j => Nat.blt j oth && kl.all fun p => !Nat.beq p.2 j) = true → FactsAt ds rs own a w l) →
    Ext (fun b => own0 b ≠ oth) w0 w → (∀ b, b < w0.heap.size → own0 b = oth → own b = oth) → (pu = true → w = if draw then w0.drew else w0) → G a w

theorem rg_fin {draw : Bool} {wS : World} {G : Act → World → Prop} (hc : rgCheck n ops ds rs kl bs oth = true) (hw : wS = if draw then w0.drew else w0)
    (hfin : RgFin pu draw kl ops ds rs a0 w0 own0 oth n G) {D : Nat → Bool} (hD : ∀ j, j < ops.length → D j = true) {own : Own} {a : Act} {w : World}
    (hI : RI pu kl ops ds rs a0 w0 own0 oth n wS D own a w) : G a w := by
  simp only [rgCheck, Bool.and_eq_true] at hc
  obtain ⟨⟨⟨⟨⟨⟨⟨hb, hnt⟩, hwn⟩, hds⟩, hrs⟩, hkl⟩, hoth⟩, hlen⟩ := hc
  refine hfin own a w hI.dfr hI.siz ?_ ?_ hI.ext hI.oth_ (fun h => (hI.pure_ h).trans hw)
  · intro t ht
    refine hI.keep t fun i hi => ?_
    have := List.all_eq_true.1 ht (i, t) hi
    simp at this
  · intro l
    induction l with
    | nil => intro _; trivial
    | cons j r ih =>
      intro h
      simp only [List.all_cons, Bool.and_eq_true] at h
      refine ⟨hI.fact j ?_ ?_, ih (by simpa using h.2)⟩
      · rcases Nat.lt_or_ge j ops.length with h' | h'
        · exact .inr (hD j h')
        · exact .inl h'
      · intro i hi
        have := List.all_eq_true.1 h.1.2 (i, j) hi
        simp at this

theorem ri_start (wS : World) (hw : Evo [] own0 own0 w0 wS) (hz : a0.tmps.size = n) (hdf : a0.defers = []) (hr : ∀ f ∈ rs, f.p own0 a0 w0) (hlen : ds.length = ops.length) :
    RI pu kl ops ds rs a0 w0 own0 oth n wS (fun _ => false) own0 a0 wS := by
  refine ⟨fun _ _ _ h => (by cases h), fun _ h => (by cases h), hdf, hz, fun _ _ => rfl, ?_, fun _ _ h => h, ?_, fun _ => rfl⟩
  · intro j hj _
    rcases hj with hj | hj
    · have hdn : ds[j]? = none := List.getElem?_eq_none (by omega)
      refine (fAt ds rs j).st (by simp) (fun _ _ => rfl) hw ?_
      simp only [fAt, hdn, Option.map_none, Option.getD_none]
      cases hr' : rs[j - ds.length]? with
      | none => trivial
      | some f => exact hr f (List.mem_of_getElem? hr')
    · cases hj
  · exact ⟨hw.os, hw.tape, hw.output, hw.size, fun b hb _ => (hw.keep b hb (by simp)).2⟩

/-- THE RULE: a region whose order is drawn. -/
theorem rg_draw {id : Nat} (hm : P.follows .mixedOrders = true) (hc : rgCheck n ops ds rs kl bs oth = true) (hz : a0.tmps.size = n) (hdf : a0.defers = [])
    (hr : ∀ f ∈ rs, f.p own0 a0 w0) (hst : Steps P pu kl ops ds rs a0 w0 own0 oth 0 ops ds) (hfin : RgFin pu true kl ops ds rs a0 w0 own0 oth n (Q .normal)) :
    (Code.region id ops.toArray true).wp P Q a0 w0 := by
  have hc' := hc
  simp only [rgCheck, Bool.and_eq_true] at hc'
  obtain ⟨⟨⟨⟨⟨⟨⟨hb, _⟩, _⟩, _⟩, _⟩, _⟩, _⟩, hlen⟩ := hc'
  have hback : backB .any ops.toArray = true := by
    simp only [backB, List.all_eq_true, List.mem_range]
    intro i hi
    cases ho : ops.toArray[i]? with
    | none => rfl
    | some o =>
      simp only [Option.map_some, Option.getD_some]
      rw [Array.all_eq_true_iff_forall_mem]
      intro e he
      cases hbe : Region.binds .any e with
      | false => rfl
      | true => simpa using (bsOk_spec hb (i := i) (by simpa using ho)).2 e he hbe
  refine wp_region_inv (fun d a w => ∃ own, RI pu kl ops ds rs a0 w0 own0 oth n w0.drew (fun i => d.getD i false) own a w) hm hback ?_ ?_ ?_
  · refine ⟨own0, ?_⟩
    have : (fun i => (Array.replicate ops.toArray.size false).getD i false) = fun _ => false := by
      funext i
      simp only [Array.getD_eq_getD_getElem?, Array.getElem?_replicate]
      split <;> rfl
    rw [this]
    exact ri_start w0.drew (Evo.drew _ _ _) hz hdf hr (Nat.eq_of_beq_eq_true hlen)
  · rintro d a w ⟨own, hI⟩ i o ho hd hp
    refine rg_step hc hst hI (by simpa using ho) (dset_false hd) hp fun j => ?_
    by_cases hji : j = i
    · subst hji; rw [if_pos rfl]; exact dset_true (dset_lt hd)
    · rw [if_neg hji]; exact dset_ne d hji
  · rintro d a w hd ⟨own, hI⟩
    exact rg_fin hc (by simp) hfin (fun j hj => hd j (by simpa using hj)) hI

theorem wpOps_from (hc : rgCheck n ops ds rs kl bs oth = true) (hst : Steps P pu kl ops ds rs a0 w0 own0 oth 0 ops ds) (hfin : RgFin pu false kl ops ds rs a0 w0 own0 oth n (Q .normal)) :
    ∀ m k, k + m = ops.length → ∀ own a w, RI pu kl ops ds rs a0 w0 own0 oth n w0 (fun i => decide (i < k)) own a w → wpOps P ops.toArray Q (List.range' k m) a w := by
  intro m
  induction m with
  | zero =>
    intro k hk own a w hI
    exact rg_fin hc (by simp) hfin (fun j hj => by simpa using (by omega : j < k)) hI
  | succ m ih =>
    intro k hk own a w hI
    rw [List.range'_succ, wpOps_cons]
    have hkl : k < ops.length := by omega
    have ho : ops[k]? = some ops[k] := List.getElem?_eq_getElem hkl
    have hc' := hc
    simp only [rgCheck, Bool.and_eq_true] at hc'
    obtain ⟨⟨⟨⟨⟨⟨⟨hb, _⟩, _⟩, _⟩, _⟩, _⟩, _⟩, _⟩ := hc'
    have h2 := (bsOk_spec hb ho).2
    refine wpOp_mono ?_ (rg_step (D' := fun i => decide (i < k + 1)) hc hst hI ho (by simp) (fun e he hbe => by have := h2 e he hbe; simpa using this) fun j => ?_)
    · rintro a' w' ⟨own', hI'⟩
      exact ih (k + 1) (by omega) own' a' w' hI'
    · by_cases hjk : j = k
      · simp [hjk]
      · rw [if_neg hjk]
        have : (j < k + 1) ↔ (j < k) := by omega
        simp [this]

/-- THE RULE: a region in the order of the text. -/
theorem rg_plain {id : Nat} (hc : rgCheck n ops ds rs kl bs oth = true) (hz : a0.tmps.size = n) (hdf : a0.defers = [])
    (hr : ∀ f ∈ rs, f.p own0 a0 w0) (hst : Steps P pu kl ops ds rs a0 w0 own0 oth 0 ops ds) (hfin : RgFin pu false kl ops ds rs a0 w0 own0 oth n (Q .normal)) :
    (Code.region id ops.toArray false).wp P Q a0 w0 := by
  refine wp_region ?_
  have hc' := hc
  simp only [rgCheck, Bool.and_eq_true] at hc'
  have := wpOps_from hc hst hfin ops.length 0 (by omega) own0 a0 w0 (by
    have := ri_start (pu := pu) (kl := kl) (ops := ops) (ds := ds) (rs := rs) (oth := oth) w0 (Evo.refl [] own0 w0) hz hdf hr (Nat.eq_of_beq_eq_true hc'.2)
    simpa using this)
  simpa [List.range_eq_range'] using this
end
end Go.Proofs.Ytefhfbefgeadaaa
