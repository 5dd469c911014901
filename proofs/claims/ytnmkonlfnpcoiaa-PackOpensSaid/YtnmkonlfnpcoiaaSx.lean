import Derived.Test.YtnmkonlfnpcoiaaInv
import Derived.CallsIn
namespace Go.Proofs.Ytnmkonlfnpcoiaa
open Go.RowKit
abbrev Own := Nat → Nat
structure Evo (T : List Nat) (own own' : Own) (w w' : World) : Prop where
  os : w'.os = w.os
  tape : w'.tape = w.tape
  output : w'.output = w.output
  size : w.heap.size ≤ w'.heap.size
  keep : ∀ b, b < w.heap.size → (own b ∈ T → own b = 0) → own' b = own b ∧ w'.heap[b]? = w.heap[b]?
def mvOwn (w : World) (T : List Nat) (k : Nat) (own : Own) : Own := fun b => if b < w.heap.size ∧ (own b ∈ T → own b = 0) then own b else k
section
variable {T T' : List Nat} {own own' own'' : Own} {w w' w'' : World} {k : Nat}
theorem Evo.refl (T : List Nat) (own : Own) (w : World) : Evo T own own w w := ⟨rfl, rfl, rfl, Nat.le_refl _, fun _ _ _ => ⟨rfl, rfl⟩⟩
theorem Evo.drew (T : List Nat) (own : Own) (w : World) : Evo T own own w w.drew := ⟨rfl, rfl, rfl, Nat.le_refl _, fun _ _ _ => ⟨rfl, rfl⟩⟩
theorem Evo.trans (h : Evo T own own' w w') (k : Evo T own' own'' w' w'') : Evo T own own'' w w'' :=
  ⟨k.os.trans h.os, k.tape.trans h.tape, k.output.trans h.output, Nat.le_trans h.size k.size, fun b hb hT => by
    have h1 := h.keep b hb hT
    have h2 := k.keep b (Nat.lt_of_lt_of_le hb h.size) (by rw [h1.1]; exact hT)
    exact ⟨h2.1.trans h1.1, h2.2.trans h1.2⟩⟩
theorem Evo.more (h : Evo T own own' w w') (hT : ∀ t ∈ T, t ∈ T') : Evo T' own own' w w' := ⟨h.os, h.tape, h.output, h.size, fun b hb hn => h.keep b hb (fun hm => hn (hT _ hm))⟩
theorem Evo.mv (T : List Nat) (k : Nat) (own : Own) (os : w'.os = w.os) (tape : w'.tape = w.tape) (output : w'.output = w.output) (size : w.heap.size ≤ w'.heap.size)
    (h : ∀ b, b < w.heap.size → (own b ∈ T → own b = 0) → w'.heap[b]? = w.heap[b]?) : Evo T own (mvOwn w T k own) w w' :=
  ⟨os, tape, output, size, fun b hb hT => ⟨if_pos ⟨hb, hT⟩, h b hb hT⟩⟩
theorem Evo.ofBelow (T : List Nat) (k : Nat) (own : Own) (h : Below w.heap.size w w') : Evo T own (mvOwn w T k own) w w' :=
  Evo.mv T k own h.os h.tape h.output h.size fun b hb _ => h.block b hb
theorem Evo.ofAlloc (T : List Nat) (k : Nat) (own : Own) (w : World) (o : Obj) : Evo T own (mvOwn w T k own) w (w.alloc o) :=
  Evo.ofBelow T k own ((Below.refl _ _).alloc (Nat.le_refl _) o)
theorem mvOwn_new {b : Nat} (h : w.heap.size ≤ b) : mvOwn w T k own b = k := if_neg fun h' => by omega
theorem mvOwn_struck {b : Nat} (h : own b ∈ T) (h0 : own b ≠ 0) : mvOwn w T k own b = k := if_neg fun h' => h0 (h'.2 h)
theorem mvOwn_same {b : Nat} (hb : b < w.heap.size) (h : own b ∉ T) : mvOwn w T k own b = own b := if_pos ⟨hb, fun hm => (h hm).elim⟩
theorem Evo.ofSet {g : Nat} (hg : own g ∈ T) (h0 : own g ≠ 0) (h : w.grownBy w' (some g)) : Evo T own (mvOwn w T k own) w w' :=
  Evo.mv T k own h.os h.tape h.output h.size fun b hb hT => by
    have hne : b ≠ g := fun e => h0 (by subst e; exact hT hg)
    exact h.block b hb (by simpa using hne)
theorem Evo.step {K : List Nat} {ownE : Own} {wE : World} {j : Nat} (h : Evo K ownE own wE w) (hl : ∀ b, ownE b ≤ j) (h' : Evo T own own' w w') (hT : (T.all fun t => Nat.blt j t || K.any (Nat.beq t)) = true) : Evo K ownE own' wE w' :=
  ⟨h'.os.trans h.os, h'.tape.trans h.tape, h'.output.trans h.output, Nat.le_trans h.size h'.size, fun b hb hK => by
    have h1 := h.keep b hb hK
    have h2 := h'.keep b (Nat.lt_of_lt_of_le hb h.size) (fun hm => by
      rw [h1.1] at hm ⊢
      have := List.all_eq_true.1 hT _ hm
      rw [Bool.or_eq_true] at this
      rcases this with h3 | h3
      · have := Nat.le_of_ble_eq_true h3
        have := hl b
        omega
      · obtain ⟨x, hx, hb⟩ := List.any_eq_true.1 h3
        have hx' : ownE b ∈ K := by rw [Nat.eq_of_beq_eq_true hb]; exact hx
        exact hK hx')
    exact ⟨h2.1.trans h1.1, h2.2.trans h1.2⟩⟩
end
theorem mem_of {x : Nat} {L : List Nat} (h : (L.any (Nat.beq x)) = true) : x ∈ L := by
  obtain ⟨y, hy, hb⟩ := List.any_eq_true.1 h
  rw [Nat.eq_of_beq_eq_true hb]; exact hy
def hits (T labs : List Nat) : Bool := T.any fun t => labs.any fun l => Nat.beq t l
theorem not_hit {T labs : List Nat} (h : hits T labs = false) {l : Nat} (hl : l ∈ labs) : l ∉ T := by
  intro hT
  have : hits T labs = true := List.any_eq_true.2 ⟨l, hT, List.any_eq_true.2 ⟨l, hl, by simp⟩⟩
  rw [h] at this; cases this
structure Fct where
  labs : List Nat
  deps : List Nat
  p : Own → Act → World → Prop
  st : ∀ {T : List Nat} {own own' : Own} {a a' : Act} {w w' : World}, hits T labs = false → (∀ t ∈ deps, a'.eval (.tmp t) = a.eval (.tmp t)) → Evo T own own' w w' → p own a w → p own' a' w'
def Fct.any : Fct := ⟨[], [], fun _ _ _ => True, fun _ _ _ h => h⟩
def Fct.val (t : Nat) (V : Value) : Fct := ⟨[], [t], fun _ a _ => a.eval (.tmp t) = V, fun _ ha _ h => (ha t (by simp)).trans h⟩
def Fct.rel (ts : List Nat) (q : List Value → Prop) : Fct :=
  ⟨[], ts, fun _ a _ => q (ts.map fun t => a.eval (.tmp t)), fun _ ha _ h => by rw [List.map_congr_left ha]; exact h⟩
def Fct.here (lab : Nat) (q : Own → World → Prop) (hq : ∀ {T : List Nat} {own own' : Own} {w w' : World}, lab ∉ T → Evo T own own' w w' → q own w → q own' w') : Fct :=
  ⟨[lab], [], fun own _ w => q own w, fun hk _ he h => hq (not_hit hk (by simp)) he h⟩
def Fct.heres (labs : List Nat) (q : Own → World → Prop) (hq : ∀ {T : List Nat} {own own' : Own} {w w' : World}, hits T labs = false → Evo T own own' w w' → q own w → q own' w') : Fct :=
  ⟨labs, [], fun own _ w => q own w, fun hk _ he h => hq hk he h⟩
def Fct.mem {β : Type} (lab t : Nat) (mk : β → Value) (q : β → Own → World → Prop) (hq : ∀ {T : List Nat} {own own' : Own} {w w' : World} {x : β}, lab ∉ T → Evo T own own' w w' → q x own w → q x own' w') : Fct :=
  ⟨[lab], [t], fun own a w => ∃ x, a.eval (.tmp t) = mk x ∧ q x own w, fun hk ha he ⟨x, hv, h⟩ => ⟨x, (ha t (by simp)).trans hv, hq (not_hit hk (by simp)) he h⟩⟩
def Fct.mems {β : Type} (labs : List Nat) (t : Nat) (mk : β → Value) (q : β → Own → World → Prop) (hq : ∀ {T : List Nat} {own own' : Own} {w w' : World} {x : β}, hits T labs = false → Evo T own own' w w' → q x own w → q x own' w') : Fct :=
  ⟨labs, [t], fun own a w => ∃ x, a.eval (.tmp t) = mk x ∧ q x own w, fun hk ha he ⟨x, hv, h⟩ => ⟨x, (ha t (by simp)).trans hv, hq hk he h⟩⟩
def Fct.by_ (labs ts : List Nat) (q : List Value → Own → World → Prop) (hq : ∀ {T : List Nat} {own own' : Own} {w w' : World} {l : List Value}, hits T labs = false → Evo T own own' w w' → q l own w → q l own' w') : Fct :=
  ⟨labs, ts, fun own a w => q (ts.map fun t => a.eval (.tmp t)) own w, fun hk ha he h => by rw [List.map_congr_left ha]; exact hq hk he h⟩
def Fct.cond (c : Bool) (d : Option Nat) (f : Fct) : Fct :=
  ⟨f.labs, f.deps ++ d.toList, fun own a w => (c = true → f.p own a w) ∧ (c = false → ∀ t, d = some t → a.eval (.tmp t) = undef), fun hk ha he ⟨h1, h2⟩ =>
    ⟨fun hc => f.st hk (fun t ht => ha t (by simp [ht])) he (h1 hc), fun hc t ht => (ha t (by simp [ht])).trans (h2 hc t ht)⟩⟩
structure OpD where
  reads : List Nat
  slots : List Nat
  kills : List Nat
  fct : Fct
def fAt (ds : List OpD) (rs : List Fct) (j : Nat) : Fct := ((ds[j]?).map OpD.fct).getD ((rs[j - ds.length]?).getD Fct.any)
def kAt (ds : List OpD) (k : Nat) : List Nat := ((ds[k]?).map OpD.kills).getD []
def killers : List OpD → Nat → List (Nat × List Nat)
  | [], _ => []
  | d :: r, k => match d.kills with
    | [] => killers r (k + 1)
    | _ => (k, d.kills) :: killers r (k + 1)
def allK : List OpD → List Nat
  | [] => []
  | d :: r => d.kills ++ allK r
def canRead (N : Nat) (bs : List Nat) (ks : List (Nat × List Nat)) (labs : List Nat) (k j : Nat) : Bool :=
  (Nat.ble N j || (bs.getD k 0).testBit j) && ks.all fun p => !hits p.2 labs || Nat.beq p.1 k || (bs.getD p.1 0).testBit k
def canSlot (bs : List Nat) (wr : List (Nat × Nat)) (k t : Nat) : Bool := wr.all fun p => !Nat.beq p.2 t || Nat.beq p.1 k || (bs.getD p.1 0).testBit k
def unOf (bs : List Nat) (o : Oper) : Nat := o.after.toList.foldl (fun s e => if Region.binds .any e then s ||| 2 ^ e.on ||| bs.getD e.on 0 else s) 0
def writersOf (ops : List Oper) (k : Nat) : List (Nat × Nat) :=
  match ops with
  | [] => []
  | o :: r => match o.dst with
    | some t => (k, t) :: writersOf r (k + 1)
    | none => writersOf r (k + 1)
def noTwice : List Nat → Bool
  | [] => true
  | x :: r => r.all (fun y => !Nat.beq x y) && noTwice r
def bsOk (bs : List Nat) (ops : List Oper) (k : Nat) : Bool :=
  match ops with
  | [] => true
  | o :: r => Nat.beq (bs.getD k 0) (unOf bs o) && (o.after.toList.all fun e => !Region.binds .any e || Nat.blt e.on k) && bsOk bs r (k + 1)
def canDep (bs : List Nat) (wr : List (Nat × Nat)) (k t : Nat) : Bool := wr.any fun p => Nat.beq p.2 t && (Nat.beq p.1 k || (bs.getD k 0).testBit p.1)
def dsOk (N : Nat) (bs : List Nat) (ks : List (Nat × List Nat)) (wr : List (Nat × Nat)) (ds : List OpD) (rs : List Fct) : List OpD → Nat → Bool
  | [], _ => true
  | d :: r, k => d.fct.deps.all (canDep bs wr k) && d.reads.all (fun j => canRead N bs ks (fAt ds rs j).labs k j) && d.slots.all (canSlot bs wr k) && dsOk N bs ks wr ds rs r (k + 1)
def rgCheck (n : Nat) (ops : List Oper) (ds : List OpD) (rs : List Fct) (bs K : List Nat) : Bool :=
  bsOk bs ops 0 && noTwice ((writersOf ops 0).map (·.2)) && (writersOf ops 0).all (fun p => Nat.blt p.2 n) && dsOk ops.length bs (killers ds 0) (writersOf ops 0) ds rs ds 0 && rs.all (fun f => f.deps.isEmpty) && Nat.beq ds.length ops.length && (allK ds).all (fun t => K.any (Nat.beq t))
def RF (r : Option Nat) : Fence := { Fence.wide with round := r }
def OpR (P : Program) (o : Oper) (a : Act) (w : World) (R : Value → World → Prop) : Prop :=
  o.wp P a w (fun a' w' => ∃ v, a' = a.put o.dst v ∧ R v w') (fun _ _ _ => False)
def OpF (r : Option Nat) (P : Program) (o : Oper) (a : Act) (w : World) (R : Value → World → Prop) : Prop :=
  o.wpIn (RF r) 0 P a w (fun a' w' => ∃ v, a' = a.put o.dst v ∧ R v w') (fun _ _ _ => False)
def Put (a : Act) (dst : Option Tmp) (v : Value) (a' : Act) : Prop := (∀ d, dst = some d → a'.eval (.tmp d) = v) ∧ ∀ t, dst ≠ some t → a'.eval (.tmp t) = a.eval (.tmp t)
def Post (T : List Nat) (own : Own) (a : Act) (w : World) (f : Fct) (dst : Option Tmp) : Value → World → Prop :=
  fun v w' => ∃ own', Evo T own own' w w' ∧ ∀ a', Put a dst v a' → f.p own' a' w'
def slotOf (ops : List Oper) (j : Nat) : Option Tmp := (ops[j]?).bind (·.dst)
def FactsAt (ds : List OpD) (rs : List Fct) (own : Own) (a : Act) (w : World) : List Nat → Prop
  | [] => True
  | j :: r => (fAt ds rs j).p own a w ∧ FactsAt ds rs own a w r
def SlotsAt (a0 a : Act) : List Nat → Prop
  | [] => True
  | t :: r => a.eval (.tmp t) = a0.eval (.tmp t) ∧ SlotsAt a0 a r
def StepGoal (r : Option Nat) (P : Program) (T : List Nat) (ops : List Oper) (own : Own) (a : Act) (w : World) (f : Fct) (o : Oper) : Prop :=
  (Region.wanted o (yielded ops.toArray a.tmps) = true → OpF r P o a w (Post T own a w f o.dst)) ∧ (Region.wanted o (yielded ops.toArray a.tmps) = false → ∃ own', Evo T own own' w w ∧ ∀ a', Put a o.dst undef a' → f.p own' a' w)
def StepOk (r : Option Nat) (P : Program) (K : List Nat) (ops : List Oper) (ds : List OpD) (rs : List Fct) (a0 : Act) (w0 : World) (own0 : Own) (o : Oper) (d : OpD) : Prop :=
  ∀ own a w, FactsAt ds rs own a w d.reads → SlotsAt a0 a d.slots → Evo K own0 own w0 w → StepGoal r P d.kills ops own a w d.fct o
def Steps (r : Option Nat) (P : Program) (K : List Nat) (ops : List Oper) (ds : List OpD) (rs : List Fct) (a0 : Act) (w0 : World) (own0 : Own) : List Oper → List OpD → Prop
  | o :: l, d :: e => StepOk r P K ops ds rs a0 w0 own0 o d ∧ Steps r P K ops ds rs a0 w0 own0 l e
  | _, _ => True
def noDefer (o : Oper) : Bool := match o.op with
  | .defer _ => false
  | _ => true
section
variable {P : Program} {ops : List Oper} {ds : List OpD} {rs : List Fct} {a0 : Act} {w0 : World} {own0 : Own} {n : Nat} {bs K : List Nat} {Q : Exit → Act → World → Prop} {dl : List Deferred} {r : Option Nat} {ks : List (Nat × List Nat)}
theorem sc {o : Oper} {l : List Oper} {d : OpD} {e : List OpD} (h : StepOk r P K ops ds rs a0 w0 own0 o d) (hr : Steps r P K ops ds rs a0 w0 own0 l e) :
    Steps r P K ops ds rs a0 w0 own0 (o :: l) (d :: e) := ⟨h, hr⟩
theorem steps_nil {e : List OpD} : Steps r P K ops ds rs a0 w0 own0 [] e := by cases e <;> exact trivial
theorem steps_get : ∀ {l : List Oper} {e : List OpD}, Steps r P K ops ds rs a0 w0 own0 l e → ∀ {i : Nat} {o : Oper} {d : OpD}, l[i]? = some o → e[i]? = some d → StepOk r P K ops ds rs a0 w0 own0 o d
  | [], _, _, i, o, d, ho, _ => by simp at ho
  | o' :: l, [], _, i, o, d, _, hd => by simp at hd
  | o' :: l, d' :: e, h, 0, o, d, ho, hd => by
    simp at ho hd
    subst ho hd
    exact h.1
  | o' :: l, d' :: e, h, i + 1, o, d, ho, hd => steps_get h.2 (i := i) (by simpa using ho) (by simpa using hd)
theorem un_bit (bs : List Nat) (l : List Edge) : ∀ (s j : Nat), (l.foldl (fun s e => if Region.binds .any e then s ||| 2 ^ e.on ||| bs.getD e.on 0 else s) s).testBit j = true →
    s.testBit j = true ∨ ∃ e ∈ l, Region.binds .any e = true ∧ (e.on = j ∨ (bs.getD e.on 0).testBit j = true) := by
  induction l with
  | nil => intro s j h; exact .inl h
  | cons e l ih =>
    intro s j h
    rw [List.foldl_cons] at h
    rcases ih _ j h with h1 | ⟨e', he, hb, hj⟩
    · by_cases hb : Region.binds .any e = true
      · rw [if_pos hb, Nat.testBit_or, Nat.testBit_or, Nat.testBit_two_pow] at h1
        simp only [Bool.or_eq_true, decide_eq_true_eq] at h1
        rcases h1 with (h1 | h1) | h1
        · exact .inl h1
        · exact .inr ⟨e, by simp, hb, .inl h1⟩
        · exact .inr ⟨e, by simp, hb, .inr h1⟩
      · rw [if_neg hb] at h1; exact .inl h1
    · exact .inr ⟨e', by simp [he], hb, hj⟩
theorem bsOk_spec : ∀ {l : List Oper} {k : Nat}, bsOk bs l k = true → ∀ {i : Nat} {o : Oper}, l[i]? = some o →
    bs.getD (k + i) 0 = unOf bs o ∧ ∀ e ∈ o.after, Region.binds .any e = true → e.on < k + i
  | [], _, _, i, o, ho => by simp at ho
  | o' :: l, k, h, 0, o, ho => by
    simp at ho
    subst ho
    simp only [bsOk, Bool.and_eq_true] at h
    refine ⟨Nat.eq_of_beq_eq_true h.1.1, fun e he hb => ?_⟩
    have := List.all_eq_true.1 h.1.2 e (by simpa using he)
    simp [hb, Nat.blt] at this
    omega
  | o' :: l, k, h, i + 1, o, ho => by
    simp only [bsOk, Bool.and_eq_true] at h
    have := bsOk_spec h.2 (i := i) (by simpa using ho)
    rwa [show k + 1 + i = k + (i + 1) from by omega] at this
def Clo (ops : List Oper) (D : Nat → Bool) : Prop := ∀ j o, ops[j]? = some o → D j = true → ∀ e ∈ o.after, Region.binds .any e = true → D e.on = true
theorem anc_done (hb : bsOk bs ops 0 = true) {D : Nat → Bool} (hc : Clo ops D) : ∀ k o, ops[k]? = some o → (∀ e ∈ o.after, Region.binds .any e = true → D e.on = true) → ∀ j, (bs.getD k 0).testBit j = true → D j = true := by
  intro k
  induction k using Nat.strongRecOn with
  | _ k ih =>
    intro o ho hp j hj
    obtain ⟨hu, hlt⟩ := bsOk_spec hb ho
    rw [Nat.zero_add] at hu hlt
    rw [hu] at hj
    rcases un_bit bs _ 0 j hj with h | ⟨e, he, hbe, h | h⟩
    · simp at h
    · rw [← h]; exact hp e (by simpa using he) hbe
    · have he' : e ∈ o.after := by simpa using he
      have hD := hp e he' hbe
      have hl := hlt e he' hbe
      cases hoe : ops[e.on]? with
      | none =>
        exfalso
        have h1 : ops.length ≤ e.on := List.getElem?_eq_none_iff.1 hoe
        have h2 : k < ops.length := by
          rcases Nat.lt_or_ge k ops.length with h' | h'
          · exact h'
          · rw [List.getElem?_eq_none h'] at ho; cases ho
        omega
      | some o' => exact ih e.on hl o' hoe (hc e.on o' hoe hD) j h
theorem dsOk_spec {N : Nat} {wr : List (Nat × Nat)} {dsA : List OpD} : ∀ {l : List OpD} {k : Nat}, dsOk N bs ks wr dsA rs l k = true → ∀ {i : Nat} {d : OpD}, l[i]? = some d →
    (∀ j ∈ d.reads, canRead N bs ks (fAt dsA rs j).labs (k + i) j = true) ∧ (∀ t ∈ d.slots, canSlot bs wr (k + i) t = true) ∧ ∀ t ∈ d.fct.deps, canDep bs wr (k + i) t = true
  | [], _, _, i, d, hd => by simp at hd
  | d' :: l, k, h, 0, d, hd => by
    simp at hd
    subst hd
    simp only [dsOk, Bool.and_eq_true] at h
    exact ⟨fun j hj => List.all_eq_true.1 h.1.1.2 j hj, fun t ht => List.all_eq_true.1 h.1.2 t ht, fun t ht => List.all_eq_true.1 h.1.1.1 t ht⟩
  | d' :: l, k, h, i + 1, d, hd => by
    simp only [dsOk, Bool.and_eq_true] at h
    have := dsOk_spec h.2 (i := i) (by simpa using hd)
    rwa [show k + 1 + i = k + (i + 1) from by omega] at this
theorem killers_mem : ∀ {l : List OpD} {k i : Nat} {d : OpD}, l[i]? = some d → d.kills ≠ [] → (k + i, d.kills) ∈ killers l k
  | [], _, i, d, hd, _ => by simp at hd
  | d' :: l, k, 0, d, hd, hk => by
    simp at hd
    subst hd
    unfold killers
    split
    · rename_i h; exact (hk h).elim
    · simp
  | d' :: l, k, i + 1, d, hd, hk => by
    have := killers_mem (l := l) (k := k + 1) (i := i) (by simpa using hd) hk
    rw [show k + 1 + i = k + (i + 1) from by omega] at this
    unfold killers
    split
    · exact this
    · exact List.mem_cons_of_mem _ this
theorem allK_mem : ∀ {l : List OpD} {i : Nat} {d : OpD}, l[i]? = some d → ∀ t ∈ d.kills, t ∈ allK l
  | [], i, d, hd, _, _ => by simp at hd
  | d' :: l, 0, d, hd, t, ht => by
    simp at hd
    subst hd
    simp [allK, ht]
  | d' :: l, i + 1, d, hd, t, ht => by
    simp only [allK, List.mem_append]
    exact .inr (allK_mem (l := l) (i := i) (by simpa using hd) t ht)
theorem writers_mem : ∀ {l : List Oper} {k i t : Nat}, (i, t) ∈ writersOf l k ↔ ∃ o, k ≤ i ∧ l[i - k]? = some o ∧ o.dst = some t
  | [], k, i, t => by simp [writersOf]
  | o :: r, k, i, t => by
    have ih := @writers_mem r (k + 1) i t
    have key : (∃ o', k + 1 ≤ i ∧ r[i - (k + 1)]? = some o' ∧ o'.dst = some t) ∨ (i = k ∧ o.dst = some t) ↔ ∃ o', k ≤ i ∧ (o :: r)[i - k]? = some o' ∧ o'.dst = some t := by
      constructor
      · rintro (⟨o', h1, h2, h3⟩ | ⟨rfl, h⟩)
        · refine ⟨o', by omega, ?_, h3⟩
          rw [show i - k = (i - (k + 1)) + 1 from by omega, List.getElem?_cons_succ]; exact h2
        · exact ⟨o, Nat.le_refl _, by simp, h⟩
      · rintro ⟨o', h1, h2, h3⟩
        rcases Nat.eq_or_lt_of_le h1 with h | h
        · subst h
          simp at h2
          subst h2
          exact .inr ⟨rfl, h3⟩
        · rw [show i - k = (i - (k + 1)) + 1 from by omega, List.getElem?_cons_succ] at h2
          exact .inl ⟨o', h, h2, h3⟩
    rw [← key, ← ih]
    cases hd : o.dst with
    | none => simp [writersOf, hd]
    | some t' =>
      simp only [writersOf, hd, List.mem_cons, Prod.mk.injEq, Option.some.injEq]
      constructor
      · rintro (⟨h1, h2⟩ | h)
        · exact .inr ⟨h1, h2.symm⟩
        · exact .inl h
      · rintro (h | ⟨h1, h2⟩)
        · exact .inr h
        · exact .inl ⟨h1, h2.symm⟩
theorem noTwice_spec : ∀ {l : List (Nat × Nat)}, noTwice (l.map (·.2)) = true → ∀ {i j t : Nat}, (i, t) ∈ l → (j, t) ∈ l → i = j
  | [], _, i, j, t, hi, _ => by cases hi
  | (a, b) :: r, h, i, j, t, hi, hj => by
    simp only [List.map_cons, noTwice, Bool.and_eq_true] at h
    have hn : ∀ m, (m, b) ∈ r → False := fun m hm => by
      have := List.all_eq_true.1 h.1 b (List.mem_map.2 ⟨(m, b), hm, rfl⟩)
      simp at this
    rcases List.mem_cons.1 hi with h1 | h1
    · rcases List.mem_cons.1 hj with h2 | h2
      · injection h1 with h1 h1'; injection h2 with h2 h2'; omega
      · injection h1 with h1 h1'; subst h1'; exact (hn _ h2).elim
    · rcases List.mem_cons.1 hj with h2 | h2
      · injection h2 with h2 h2'; subst h2'; exact (hn _ h1).elim
      · exact noTwice_spec h.2 h1 h2
structure RI (dl : List Deferred) (K : List Nat) (ops : List Oper) (ds : List OpD) (rs : List Fct) (a0 : Act) (w0 : World) (own0 : Own) (n : Nat) (D : Nat → Bool) (own : Own) (a : Act) (w : World) : Prop where
  clo : Clo ops D
  dom : ∀ j, D j = true → j < ops.length
  dfr : a.defers = dl
  siz : a.tmps.size = n
  keep : ∀ t, (∀ i, (i, t) ∈ writersOf ops 0 → D i = false) → a.tmps.getD t undef = a0.tmps.getD t undef
  fact : ∀ j, (ops.length ≤ j ∨ D j = true) → (∀ i, D i = true → hits (kAt ds i) (fAt ds rs j).labs = false) → (fAt ds rs j).p own a w
  evo : Evo K own0 own w0 w
theorem put_getD {a : Act} {t s : Nat} {v : Value} (h : s < a.tmps.size) : (a.put (some s) v).tmps.getD t undef = if t = s then v else a.tmps.getD t undef := by
  simp only [Act.put, Array.getD_eq_getD_getElem?, Array.getElem?_setIfInBounds]
  by_cases hts : s = t
  · subst hts; simp [h]
  · rw [if_neg hts, if_neg (Ne.symm hts)]
theorem put_defers {a : Act} {d : Option Tmp} {v : Value} : (a.put d v).defers = a.defers := by cases d <;> rfl
theorem put_size {a : Act} {d : Option Tmp} {v : Value} : (a.put d v).tmps.size = a.tmps.size := by cases d <;> simp [Act.put]
theorem oper_wp_q {o : Oper} {a : Act} {w : World} {K K' : Act → World → Prop} (hk : ∀ a w, K a w → K' a w) (h : o.wp P a w K (fun _ _ _ => False)) : o.wp P a w K' Q := by
  unfold Oper.wp at *
  generalize (execOp a.eval o).run P w = r at *
  cases r with
  | ok n w' =>
    cases n <;> simp only [Oper.upon] at h ⊢ <;>
      first
        | exact hk _ _ h
        | exact Calls.mono h (fun e w'' he => by
            cases e with
            | returned v => exact hk _ _ he
            | panicked c => exact he.elim
            | outgrown => obtain ⟨_, _, hf⟩ := he; exact hf.elim)
        | exact Rows.mono h (fun _ _ he => hk _ _ he)
  | halt x w' => cases x <;> simp only [Oper.upon] at h
theorem opF_of {o : Oper} {a : Act} {w : World} {R : Value → World → Prop} (hn : r = none ∨ noDefer o = true) (h : OpR P o a w R) : OpF r P o a w R := by
  unfold OpF Oper.wpIn
  refine ⟨fun _ _ => trivial, ?_⟩
  have hs : o.semAt (RF r).round a.eval = execOp a.eval o := by
    rcases hn with rfl | hn
    · rfl
    · cases r with
      | none => rfl
      | some l => exact Oper.semAt_some l _ _ (fun c hc => by simp [noDefer, hc] at hn)
  rw [hs]
  unfold OpR Oper.wp at h
  generalize (execOp a.eval o).run P w = x at *
  cases x with
  | ok n w' =>
    cases n with
    | value v => exact h
    | skip => exact h
    | defer d => exact h
    | enter f args =>
      refine ⟨fun hd => by simp [RF, Fence.wide] at hd, ?_⟩
      have h1 : Calls P f args w' _ := h
      exact CallsIn.mono (F := RF r) (callsIn_wide.2 h1 : CallsIn Fence.wide _ P f args w' _) (fun e w'' he => by
        cases e with
        | returned v => exact he
        | panicked c => exact he
        | outgrown => exact he)
    | row row args =>
      refine ⟨fun hd => by simp [RF, Fence.wide] at hd, ?_⟩
      have h1 : Rows P row args w' _ := h
      exact fun c cs _ => let ⟨v, w'', hR, hs⟩ := h1 c cs; ⟨v, w'', hR, stepsIn_wide.2 hs⟩
    | _ => exact h.elim
  | halt x w' => cases x <;> exact h
theorem operF_q {o : Oper} {a : Act} {w : World} {K K' : Act → World → Prop} (hk : ∀ a w, K a w → K' a w) (h : o.wpIn (RF r) 0 P a w K (fun _ _ _ => False)) : o.wpIn (RF r) 0 P a w K' Q := by
  unfold Oper.wpIn at *
  refine ⟨h.1, ?_⟩
  have h := h.2
  generalize (o.semAt (RF r).round a.eval).run P w = x at *
  cases x with
  | ok n w' =>
    cases n <;> simp only [Oper.uponIn] at h ⊢ <;>
      first
        | exact hk _ _ h
        | exact ⟨h.1, CallsIn.mono h.2 (fun e w'' he => by
            cases e with
            | returned v => exact hk _ _ he
            | panicked c => exact he.elim
            | outgrown => obtain ⟨_, _, hf⟩ := he; exact hf.elim)⟩
        | exact ⟨h.1, RowsIn.mono h.2 (fun _ _ he => hk _ _ he)⟩
        | exact ⟨h.1, RoundIn.mono h.2 (fun e w'' he => by
            cases e with
            | returned v => exact hk _ _ he
            | panicked c => exact he.elim
            | outgrown => obtain ⟨_, _, hf⟩ := he; exact hf.elim)⟩
  | halt x w' => cases x <;> simp only [Oper.uponIn] at h
theorem fAt_lt {j : Nat} {d : OpD} (h : ds[j]? = some d) : fAt ds rs j = d.fct := by simp [fAt, h]
theorem kAt_lt {j : Nat} {d : OpD} (h : ds[j]? = some d) : kAt ds j = d.kills := by simp [kAt, h]
theorem rg_step (hc : rgCheck n ops ds rs bs K = true) {k : Nat} {o : Oper} (hst : ∀ d, ds[k]? = some d → StepOk r P K ops ds rs a0 w0 own0 o d)
    {D D' : Nat → Bool} {own : Own} {a : Act} {w : World} (hI : RI dl K ops ds rs a0 w0 own0 n D own a w) (ho : ops[k]? = some o) (hk : D k = false)
    (hp : ∀ e ∈ o.after, Region.binds .any e = true → D e.on = true) (hD : ∀ j, D' j = (if j = k then true else D j)) :
    wpOpIn (RF r) 0 P ops.toArray Q k (fun a' w' => ∃ own', RI dl K ops ds rs a0 w0 own0 n D' own' a' w') a w := by
  simp only [rgCheck, Bool.and_eq_true] at hc
  obtain ⟨⟨⟨⟨⟨⟨hb, hnt⟩, hwn⟩, hds⟩, hrs⟩, hlen⟩, hKK⟩ := hc
  have hlen := Nat.eq_of_beq_eq_true hlen
  have hkN : k < ops.length := by
    rcases Nat.lt_or_ge k ops.length with h | h
    · exact h
    · rw [List.getElem?_eq_none h] at ho; cases ho
  obtain ⟨d, hd⟩ : ∃ d, ds[k]? = some d := ⟨ds[k]'(by omega), List.getElem?_eq_getElem (by omega)⟩
  obtain ⟨hrd, hsl, hdep⟩ := dsOk_spec hds hd
  rw [Nat.zero_add] at hrd hsl hdep
  -- descendants are not done
  have hdesc : ∀ p, p < ops.length → (bs.getD p 0).testBit k = true → D p = false := by
    intro p hpN hpk
    cases hDp : D p with
    | false => rfl
    | true =>
      exfalso
      obtain ⟨op, hop⟩ : ∃ op, ops[p]? = some op := ⟨ops[p], List.getElem?_eq_getElem hpN⟩
      have := anc_done hb hI.clo p op hop (hI.clo p op hop hDp) k hpk
      rw [hk] at this; cases this
  have hanc := anc_done hb hI.clo k o ho hp
  have hfacts : ∀ l : List Nat, (∀ j ∈ l, canRead ops.length bs (killers ds 0) (fAt ds rs j).labs k j = true) → FactsAt ds rs own a w l := by
    intro l
    induction l with
    | nil => intro _; trivial
    | cons j r ih =>
      intro h
      refine ⟨?_, ih fun j' h' => h j' (by simp [h'])⟩
      have hj := h j (by simp)
      simp only [canRead, Bool.and_eq_true, Bool.or_eq_true] at hj
      refine hI.fact j ?_ ?_
      · rcases hj.1 with h1 | h1
        · exact .inl (Nat.le_of_ble_eq_true h1)
        · exact .inr (hanc j h1)
      · intro i hi
        have hiN := hI.dom i hi
        obtain ⟨di, hdi⟩ : ∃ di, ds[i]? = some di := ⟨ds[i]'(by omega), List.getElem?_eq_getElem (by omega)⟩
        rw [kAt_lt hdi]
        cases hhit : hits di.kills (fAt ds rs j).labs with
        | false => rfl
        | true =>
          exfalso
          have hne : di.kills ≠ [] := by intro e; rw [e] at hhit; simp [hits] at hhit
          have hm := killers_mem (k := 0) hdi hne
          rw [Nat.zero_add] at hm
          have h2 := List.all_eq_true.1 hj.2 _ hm
          rw [hhit] at h2
          simp at h2
          rcases h2 with h2 | h2
          · rw [h2] at hi; rw [hk] at hi; cases hi
          · have := hdesc i hiN (by simpa using h2)
            rw [hi] at this; cases this
  have hslots : ∀ l : List Nat, (∀ t ∈ l, canSlot bs (writersOf ops 0) k t = true) → SlotsAt a0 a l := by
    intro l
    induction l with
    | nil => intro _; trivial
    | cons t r ih =>
      intro h
      refine ⟨?_, ih fun j' h' => h j' (by simp [h'])⟩
      have hj := h t (by simp)
      refine hI.keep t fun i hi => ?_
      have h2 := List.all_eq_true.1 hj (i, t) hi
      simp at h2
      obtain ⟨oi, _, hoi, _⟩ := writers_mem.1 hi
      rw [Nat.sub_zero] at hoi
      have hiN : i < ops.length := by
        rcases Nat.lt_or_ge i ops.length with h | h
        · exact h
        · rw [List.getElem?_eq_none h] at hoi; cases hoi
      rcases h2 with h2 | h2
      · rw [h2]; exact hk
      · exact hdesc i hiN (by simpa using h2)
  obtain ⟨hyes, hno⟩ := hst d hd own a w (hfacts _ hrd) (hslots _ hsl) hI.evo
  have hclo : Clo ops D' := by
    intro j oj hoj hDj e he hbe
    rw [hD] at hDj ⊢
    by_cases hek : e.on = k
    · simp [hek]
    · rw [if_neg hek]
      by_cases hjk : j = k
      · subst hjk
        rw [ho] at hoj
        cases hoj
        exact hp e he hbe
      · rw [if_neg hjk] at hDj
        exact hI.clo j oj hoj hDj e he hbe
  have hdom : ∀ j, D' j = true → j < ops.length := by
    intro j hj
    rw [hD] at hj
    by_cases hjk : j = k
    · rw [hjk]; exact hkN
    · rw [if_neg hjk] at hj; exact hI.dom j hj
  have hDle : ∀ i, D' i = false → D i = false := by
    intro i hi
    rw [hD] at hi
    by_cases hik : i = k
    · rw [if_pos hik] at hi; cases hi
    · rwa [if_neg hik] at hi
  have hDk : D' k = true := by rw [hD]; simp
  -- the new state
  have hput : ∀ v : Value, Put a o.dst v (a.put o.dst v) := by
    intro v
    refine ⟨fun d' hd' => ?_, fun t ht => ?_⟩
    · have hmk : (k, d') ∈ writersOf ops 0 := writers_mem.2 ⟨o, Nat.zero_le _, by simpa using ho, hd'⟩
      have hsn := List.all_eq_true.1 hwn (k, d') hmk
      simp only [Nat.blt, Nat.ble_eq] at hsn
      rw [hd']
      show (a.put (some d') v).tmps.getD d' undef = v
      rw [put_getD (by rw [hI.siz]; omega), if_pos rfl]
    · show (a.put o.dst v).tmps.getD t undef = a.tmps.getD t undef
      cases hdst : o.dst with
      | none => rfl
      | some s =>
        have hmk : (k, s) ∈ writersOf ops 0 := writers_mem.2 ⟨o, Nat.zero_le _, by simpa using ho, hdst⟩
        have hsn := List.all_eq_true.1 hwn (k, s) hmk
        simp only [Nat.blt, Nat.ble_eq] at hsn
        have hne : t ≠ s := fun e => ht (by rw [hdst, e])
        rw [put_getD (by rw [hI.siz]; omega), if_neg hne]
  have hnew : ∀ (own' : Own) (v : Value) (w' : World), Evo d.kills own own' w w' → d.fct.p own' (a.put o.dst v) w' →
      RI dl K ops ds rs a0 w0 own0 n D' own' (a.put o.dst v) w' := by
    intro own' v w' hev hf
    refine ⟨hclo, hdom, by rw [put_defers]; exact hI.dfr, by rw [put_size]; exact hI.siz, ?_, ?_, hI.evo.trans (hev.more fun t ht => by
      obtain ⟨x, hx, hb⟩ := List.any_eq_true.1 (List.all_eq_true.1 hKK t (allK_mem hd t ht))
      rw [Nat.eq_of_beq_eq_true hb]; exact hx)⟩
    · intro t ht
      have h1 := hI.keep t fun i hi => hDle i (ht i hi)
      rw [← h1]
      refine (hput v).2 t fun e => ?_
      have hmk : (k, t) ∈ writersOf ops 0 := writers_mem.2 ⟨o, Nat.zero_le _, by simpa using ho, e⟩
      have := ht k hmk
      rw [hDk] at this; cases this
    · intro j hj hkil
      by_cases hjk : j = k
      · subst hjk
        rw [fAt_lt hd]
        exact hf
      · have hjT : hits d.kills (fAt ds rs j).labs = false := by
          have := hkil k hDk
          rwa [kAt_lt hd] at this
        have hj' : ops.length ≤ j ∨ D j = true := by
          rcases hj with h | h
          · exact .inl h
          · rw [hD, if_neg hjk] at h; exact .inr h
        refine (fAt ds rs j).st hjT ?_ hev (hI.fact j hj' fun i hi => hkil i (by
          rw [hD]
          by_cases hik : i = k
          · simp [hik]
          · rw [if_neg hik]; exact hi))
        intro t ht
        refine (hput v).2 t fun e => ?_
        have hmk : (k, t) ∈ writersOf ops 0 := writers_mem.2 ⟨o, Nat.zero_le _, by simpa using ho, e⟩
        cases hdj : ds[j]? with
        | none =>
          have hlt : ds.length ≤ j := List.getElem?_eq_none_iff.1 hdj
          cases h' : rs[j - ds.length]? with
          | some f =>
            simp only [fAt, hdj, Option.map_none, Option.getD_none, h', Option.getD_some] at ht
            have h3 := List.all_eq_true.1 hrs f (List.mem_of_getElem? h')
            simp at h3
            rw [h3] at ht
            cases ht
          | none => simp [fAt, hdj, h', Fct.any] at ht
        | some dj =>
          rw [fAt_lt hdj] at ht
          have hjl : j < ds.length := (List.getElem?_eq_some_iff.1 hdj).1
          have hDj : D j = true := by
            rcases hj' with h | h
            · omega
            · exact h
          have hcd := (dsOk_spec hds hdj).2.2 t ht
          rw [Nat.zero_add] at hcd
          obtain ⟨⟨i, t'⟩, hi, hit⟩ := List.any_eq_true.1 hcd
          simp only [Bool.and_eq_true, Bool.or_eq_true] at hit
          have ht' : t' = t := Nat.eq_of_beq_eq_true hit.1
          subst ht'
          have hik : i = k := noTwice_spec hnt hi hmk
          subst hik
          rcases hit.2 with h | h
          · exact hjk (Nat.eq_of_beq_eq_true h).symm
          · obtain ⟨oj, hoj⟩ : ∃ oj, ops[j]? = some oj := ⟨ops[j]'(by omega), List.getElem?_eq_getElem (by omega)⟩
            have := anc_done hb hI.clo j oj hoj (hI.clo j oj hoj hDj) i h
            rw [hk] at this; cases this
  unfold wpOpIn
  have ho' : ops.toArray[k]? = some o := by simpa using ho
  simp only [ho']
  split
  · rename_i hw
    refine operF_q ?_ (hyes hw)
    rintro a' w' ⟨v, rfl, own', hev, hf⟩
    exact ⟨own', hnew own' v w' hev (hf _ (hput v))⟩
  · rename_i hw
    obtain ⟨own', hev, hf⟩ := hno (by simpa using hw)
    exact ⟨fun _ _ => trivial, own', hnew own' undef w hev (hf _ (hput undef))⟩
def RgFin (dl : List Deferred) (K : List Nat) (ops : List Oper) (ds : List OpD) (rs : List Fct) (a0 : Act) (w0 : World) (own0 : Own) (n : Nat) (G : Act → World → Prop) : Prop :=
  ∀ own a w, a.defers = dl → a.tmps.size = n → (∀ t, ((writersOf ops 0).all fun p => !Nat.beq p.2 t) = true → a.eval (.tmp t) = a0.eval (.tmp t)) →
    (∀ l : List Nat, (l.all fun j => Nat.blt j (ops.length + rs.length) && !hits K (fAt ds rs j).labs) = true → FactsAt ds rs own a w l) →
    Evo K own0 own w0 w → G a w
theorem rg_fin {G : Act → World → Prop} (hc : rgCheck n ops ds rs bs K = true)
    (hfin : RgFin dl K ops ds rs a0 w0 own0 n G) {D : Nat → Bool} (hD : ∀ j, j < ops.length → D j = true) {own : Own} {a : Act} {w : World}
    (hI : RI dl K ops ds rs a0 w0 own0 n D own a w) : G a w := by
  simp only [rgCheck, Bool.and_eq_true] at hc
  obtain ⟨⟨⟨⟨⟨⟨hb, hnt⟩, hwn⟩, hds⟩, hrs⟩, hlen⟩, hKK⟩ := hc
  have hlen := Nat.eq_of_beq_eq_true hlen
  refine hfin own a w hI.dfr hI.siz ?_ ?_ hI.evo
  · intro t ht
    refine hI.keep t fun i hi => ?_
    have := List.all_eq_true.1 ht (i, t) hi
    simp at this
  · intro l
    induction l with
    | nil => intro _; trivial
    | cons j r ih =>
      intro h
      simp only [List.all_cons, Bool.and_eq_true] at h
      refine ⟨hI.fact j ?_ ?_, ih (by simpa using h.2)⟩
      · rcases Nat.lt_or_ge j ops.length with h1 | h1
        · exact .inr (hD j h1)
        · exact .inl h1
      · intro i hi
        have hiN := hI.dom i hi
        obtain ⟨di, hdi⟩ : ∃ di, ds[i]? = some di := ⟨ds[i]'(by omega), List.getElem?_eq_getElem (by omega)⟩
        rw [kAt_lt hdi]
        cases hhit : hits di.kills (fAt ds rs j).labs with
        | false => rfl
        | true =>
          exfalso
          have h2 : hits K (fAt ds rs j).labs = false := by simpa using h.1.2
          obtain ⟨t, ht, hl⟩ := List.any_eq_true.1 hhit
          obtain ⟨x, hx, hb⟩ := List.any_eq_true.1 (List.all_eq_true.1 hKK t (allK_mem hdi t ht))
          have : hits K (fAt ds rs j).labs = true := List.any_eq_true.2 ⟨t, by rw [Nat.eq_of_beq_eq_true hb]; exact hx, hl⟩
          rw [h2] at this; cases this
theorem ri_start (wS : World) (hw : Evo [] own0 own0 w0 wS) (hz : a0.tmps.size = n) (hdf : a0.defers = dl) (hr : ∀ f ∈ rs, f.p own0 a0 w0) (hlen : ds.length = ops.length) :
    RI dl K ops ds rs a0 w0 own0 n (fun _ => false) own0 a0 wS := by
  refine ⟨fun _ _ _ h => (by cases h), fun _ h => (by cases h), hdf, hz, fun _ _ => rfl, ?_, hw.more (by simp)⟩
  intro j hj _
  rcases hj with hj | hj
  · have hd : ds[j]? = none := List.getElem?_eq_none_iff.2 (by omega)
    cases h' : rs[j - ds.length]? with
    | some f =>
      simp only [fAt, hd, Option.map_none, Option.getD_none, h', Option.getD_some]
      exact f.st (T := []) (by simp [hits]) (fun _ _ => rfl) hw (hr f (List.mem_of_getElem? h'))
    | none => simp [fAt, hd, h', Fct.any]
  · cases hj
theorem rg_draw {id : Nat} (hm : P.follows .mixedOrders = true) (hc : rgCheck n ops ds rs bs K = true) (hz : a0.tmps.size = n) (hdf : a0.defers = dl)
    (hr : ∀ f ∈ rs, f.p own0 a0 w0) (hst : Steps r P K ops ds rs a0 w0 own0 ops ds) (hfin : RgFin dl K ops ds rs a0 w0 own0 n (Q .normal)) :
    (Code.region id ops.toArray true).wpIn (RF r) 0 P Q a0 w0 := by
  have hc' := hc
  simp only [rgCheck, Bool.and_eq_true] at hc'
  obtain ⟨⟨⟨⟨⟨⟨hb, _⟩, _⟩, _⟩, _⟩, hlen⟩, _⟩ := hc'
  have hback : backB .any ops.toArray = true := by
    simp only [backB, List.all_eq_true, List.mem_range]
    intro i hi
    cases ho : ops.toArray[i]? with
    | none => rfl
    | some o =>
      simp only [Option.map_some, Option.getD_some]
      rw [Array.all_eq_true_iff_forall_mem]
      intro e he
      cases hbe : Region.binds .any e with
      | false => rfl
      | true => simpa using (bsOk_spec hb (i := i) (by simpa using ho)).2 e he hbe
  refine wpF_region_inv (fun d a w => ∃ own, RI dl K ops ds rs a0 w0 own0 n (fun i => d.getD i false) own a w) hm hback ?_ ?_ ?_
  · refine ⟨own0, ?_⟩
    have : (fun i => (Array.replicate ops.toArray.size false).getD i false) = fun _ => false := by
      funext i
      rw [Array.getD_eq_getD_getElem?, Array.getElem?_replicate]
      split <;> rfl
    rw [this]
    exact ri_start w0.drew (Evo.drew _ _ _) hz hdf hr (Nat.eq_of_beq_eq_true hlen)
  · rintro d a w ⟨own, hI⟩ i o ho hd hp
    refine rg_step hc (fun d hd' => steps_get hst (by simpa using ho) hd') hI (by simpa using ho) (dset_false hd) hp fun j => ?_
    by_cases hji : j = i
    · subst hji; rw [if_pos rfl]; exact dset_true (dset_lt hd)
    · rw [if_neg hji]; exact dset_ne d hji
  · rintro d a w hd ⟨own, hI⟩
    exact rg_fin hc hfin (fun j hj => hd j (by simpa using hj)) hI
theorem wpOpsF_from (hc : rgCheck n ops ds rs bs K = true) (hst : Steps r P K ops ds rs a0 w0 own0 ops ds) (hfin : RgFin dl K ops ds rs a0 w0 own0 n (Q .normal)) :
    ∀ m' k, k + m' = ops.length → ∀ own a w, RI dl K ops ds rs a0 w0 own0 n (fun i => decide (i < k)) own a w → wpOpsIn (RF r) 0 P ops.toArray Q (List.range' k m') a w := by
  intro m'
  induction m' with
  | zero =>
    intro k hk own a w hI
    exact rg_fin hc hfin (fun j hj => by simpa using (by omega : j < k)) hI
  | succ m' ih =>
    intro k hk own a w hI
    rw [List.range'_succ, wpOpsIn_cons]
    have hkl : k < ops.length := by omega
    have ho : ops[k]? = some ops[k] := List.getElem?_eq_getElem hkl
    have hc' := hc
    simp only [rgCheck, Bool.and_eq_true] at hc'
    obtain ⟨⟨⟨⟨⟨⟨hb, _⟩, _⟩, _⟩, _⟩, _⟩, _⟩ := hc'
    have h2 := (bsOk_spec hb ho).2
    refine wpOpIn_mono ?_ (rg_step (D' := fun i => decide (i < k + 1)) hc (fun d hd' => steps_get hst ho hd') hI ho (by simp) (fun e he hbe => by have := h2 e he hbe; simpa using this) fun j => ?_)
    · rintro a' w' ⟨own', hI'⟩
      exact ih (k + 1) (by omega) own' a' w' hI'
    · by_cases hjk : j = k
      · simp [hjk]
      · rw [if_neg hjk]
        have : (j < k + 1) ↔ (j < k) := by omega
        simp [this]
theorem rg_plain {id : Nat} (hc : rgCheck n ops ds rs bs K = true) (hz : a0.tmps.size = n) (hdf : a0.defers = dl)
    (hr : ∀ f ∈ rs, f.p own0 a0 w0) (hst : Steps r P K ops ds rs a0 w0 own0 ops ds) (hfin : RgFin dl K ops ds rs a0 w0 own0 n (Q .normal)) :
    (Code.region id ops.toArray false).wpIn (RF r) 0 P Q a0 w0 := by
  refine wpIn_region ?_
  have hc' := hc
  simp only [rgCheck, Bool.and_eq_true] at hc'
  have := wpOpsF_from hc hst hfin ops.length 0 (by omega) own0 a0 w0 (by
    have := ri_start (K := K) (ops := ops) (ds := ds) (rs := rs) w0 (Evo.refl [] own0 w0) hz hdf hr (Nat.eq_of_beq_eq_true hc'.1.2)
    simpa using this)
  simpa [List.range_eq_range'] using this
end
end Go.Proofs.Ytnmkonlfnpcoiaa
