import Derived.IntWalk
namespace Go.Proofs.Ytnmkonlfnpcoiaa
section
variable {S R α β : Type}
def iter (body : S → Option (S ⊕ R)) : Nat → S → Option R
  | 0, _ => none
  | n + 1, s => match body s with
    | none => none
    | some (.inl s') => iter body n s'
    | some (.inr r) => some r
theorem iter_more {body : S → Option (S ⊕ R)} {n : Nat} {s : S} {r : R} (h : iter body n s = some r) : iter body (n + 1) s = some r := by
  induction n generalizing s with
  | zero => cases h
  | succ n ih =>
    unfold iter at h ⊢
    cases hb : body s with
    | none => rw [hb] at h; cases h
    | some z =>
      rw [hb] at h
      cases z with
      | inl s' => exact ih h
      | inr r' => exact h
theorem iter_le {body : S → Option (S ⊕ R)} {n m : Nat} {s : S} {r : R} (h : iter body n s = some r) (hm : n ≤ m) : iter body m s = some r := by
  induction hm with
  | refl => exact h
  | step _ ih => exact iter_more ih
theorem iter_det {body : S → Option (S ⊕ R)} {n m : Nat} {s : S} {r r' : R} (h : iter body n s = some r) (h' : iter body m s = some r') : r = r' := by
  have h1 := iter_le h (Nat.le_max_left n m)
  have h2 := iter_le h' (Nat.le_max_right n m)
  rw [h1] at h2; injection h2
open Classical in
noncomputable def loopO (body : S → Option (S ⊕ R)) (s : S) : Option R :=
  if h : ∃ r, ∃ n, iter body n s = some r then some (Classical.choose h) else none
theorem loopO_some {body : S → Option (S ⊕ R)} {s : S} {r : R} : loopO body s = some r ↔ ∃ n, iter body n s = some r := by
  unfold loopO
  constructor
  · intro h
    split at h
    · rename_i hx
      injection h with h
      rw [← h]; exact Classical.choose_spec hx
    · cases h
  · rintro ⟨n, hn⟩
    have hx : ∃ r, ∃ n, iter body n s = some r := ⟨r, n, hn⟩
    rw [dif_pos hx]
    obtain ⟨m, hm⟩ := Classical.choose_spec hx
    rw [iter_det hm hn]
def Behind (body : S → Option (S ⊕ R)) (k : Nat) (r : R) : S ⊕ R → Prop
  | .inl s' => iter body k s' = some r
  | .inr r' => r' = r
theorem iter_step {body : S → Option (S ⊕ R)} {n : Nat} {s : S} {r : R} (h : iter body n s = some r) :
    ∃ k zz, n = k + 1 ∧ body s = some zz ∧ Behind body k r zz := by
  cases n with
  | zero => cases h
  | succ k =>
    unfold iter at h
    cases hb : body s with
    | none => rw [hb] at h; cases h
    | some z =>
      rw [hb] at h
      refine ⟨k, z, rfl, rfl, ?_⟩
      cases z with
      | inl s' => exact h
      | inr r' => injection h
theorem iter_exit {body : S → Option (S ⊕ R)} {k : Nat} {zz : S ⊕ R} {r : R} {E : Option R} (hE : E.map Sum.inr = some zz) (h : Behind body k r zz) : E = some r := by
  cases E with
  | none => cases hE
  | some e =>
    injection hE with hE
    subst hE
    exact congrArg some (show e = r from h)
theorem loopO_eq (body : S → Option (S ⊕ R)) (s : S) : loopO body s = match body s with
    | none => none
    | some (.inl s') => loopO body s'
    | some (.inr r) => some r := by
  cases h : loopO body s with
  | some r =>
    obtain ⟨n, hn⟩ := loopO_some.1 h
    obtain ⟨k, zz, rfl, hb, hz⟩ := iter_step hn
    rw [hb]
    cases zz with
    | inl s' => exact (loopO_some.2 ⟨k, (show iter body k s' = some r from hz)⟩).symm
    | inr r' => rw [show r' = r from hz]
  | none =>
    cases hb : body s with
    | none => rfl
    | some zz =>
      cases zz with
      | inl s' =>
        cases h' : loopO body s' with
        | none => exact h'.symm
        | some r =>
          exfalso
          obtain ⟨n, hn⟩ := loopO_some.1 h'
          have : loopO body s = some r := loopO_some.2 ⟨n + 1, by unfold iter; rw [hb]; exact hn⟩
          rw [h] at this; cases this
      | inr r =>
        exfalso
        have : loopO body s = some r := loopO_some.2 ⟨1, by unfold iter; rw [hb]⟩
        rw [h] at this; cases this
theorem loopO_inl {body : S → Option (S ⊕ R)} {s s' : S} (h : body s = some (.inl s')) : loopO body s = loopO body s' := by rw [loopO_eq, h]
theorem loopO_inr {body : S → Option (S ⊕ R)} {s : S} {r : R} (h : body s = some (.inr r)) : loopO body s = some r := by rw [loopO_eq, h]
theorem loopO_rule {body : S → Option (S ⊕ R)} (I : S → Prop) (μ : S → Nat) (R0 : R → Prop) (h : ∀ s, I s → (∃ s', body s = some (.inl s') ∧ I s' ∧ μ s' < μ s) ∨ ∃ r, body s = some (.inr r) ∧ R0 r) {s : S} (h0 : I s) : ∃ r, loopO body s = some r ∧ R0 r := by
  generalize hn : μ s = n
  induction n using Nat.strongRecOn generalizing s with
  | _ n ih =>
    rcases h s h0 with ⟨s', hb, hI, hlt⟩ | ⟨r, hb, hr⟩
    · obtain ⟨r, h1, h2⟩ := ih (μ s') (by omega) hI rfl
      exact ⟨r, (loopO_inl hb).trans h1, h2⟩
    · exact ⟨r, loopO_inr hb, hr⟩
theorem obind {o : Option α} {f : α → Option β} {z : β} (h : o.bind f = some z) : ∃ x, o = some x ∧ f x = some z := by
  cases o with
  | none => cases h
  | some x => exact ⟨x, rfl, h⟩
theorem osome {x z : α} (h : some x = some z) : z = x := by injection h with h; exact h.symm
def gd (c : Bool) (o : Option α) (d : α) : Option α := if c then o else some d
theorem gd_t {c : Bool} {o : Option α} {d z : α} (h : gd c o d = some z) (hc : c = true) : o = some z := by rw [gd, if_pos hc] at h; exact h
@[simp] theorem gd_true (o : Option α) (d : α) : gd true o d = o := rfl
@[simp] theorem gd_false (o : Option α) (d : α) : gd false o d = some d := rfl
end
section
variable {K V : Type} [DecidableEq K]
def lkM : List (K × V) → K → Option V
  | [], _ => none
  | p :: r, k => if k = p.1 then some p.2 else lkM r k
def upM : List (K × V) → K → V → List (K × V)
  | [], k, v => [(k, v)]
  | p :: r, k, v => if k = p.1 then (k, v) :: r else p :: upM r k v
end
def yb {S D X : Type} (bd : S → X → Option (S ⊕ D)) : S ⊕ D → X → Option (Bool × (S ⊕ D))
  | .inl s, x => (bd s x).map fun zz => match zz with
    | .inl s' => (true, .inl s')
    | .inr d => (false, .inr d)
  | .inr _, _ => none
def rngO {S D Z : Type} (o : Option (S ⊕ D)) (k1 : S → Option Z) (k2 : D → Option Z) : Option Z := o.bind (Sum.elim k1 k2)
theorem rngO_some {S D Z : Type} {o : Option (S ⊕ D)} {k1 : S → Option Z} {k2 : D → Option Z} {z : Z} (h : rngO o k1 k2 = some z) : ∃ x, o = some x ∧ Sum.elim k1 k2 x = some z := by
  cases o with
  | none => cases h
  | some x => exact ⟨x, rfl, h⟩
def I64 (n : Int) : Prop := -9223372036854775808 ≤ n ∧ n ≤ 9223372036854775807
def U64 (n : Int) : Prop := 0 ≤ n ∧ n ≤ 18446744073709551615
def U8 (n : Int) : Prop := 0 ≤ n ∧ n ≤ 255
def ad (x y : Int) : Int := IntKind.i64.wrap (x + y)
def sb (x y : Int) : Int := IntKind.i64.wrap (x - y)
def ml (x y : Int) : Int := IntKind.i64.wrap (x * y)
def ng (x : Int) : Int := IntKind.i64.wrap (-x)
def adK (k : IntKind) (x y : Int) : Int := k.wrap (x + y)
def sbK (k : IntKind) (x y : Int) : Int := k.wrap (x - y)
def mlK (k : IntKind) (x y : Int) : Int := k.wrap (x * y)
def quK (k : IntKind) (x y : Int) : Option Int := if y = 0 then none else some (k.wrap (x.tdiv y))
def rmK (x y : Int) : Option Int := if y = 0 then none else some (x.tmod y)
def anK (k : IntKind) (x y : Int) : Int := k.wrap ((BitVec.ofInt k.bits x &&& BitVec.ofInt k.bits y).toNat : Int)
def orK (k : IntKind) (x y : Int) : Int := k.wrap ((BitVec.ofInt k.bits x ||| BitVec.ofInt k.bits y).toNat : Int)
def xoK (k : IntKind) (x y : Int) : Int := k.wrap ((BitVec.ofInt k.bits x ^^^ BitVec.ofInt k.bits y).toNat : Int)
def slK (k : IntKind) (x n : Int) : Option Int := if 0 ≤ n ∧ n ≤ k.bits then some (k.wrap (x * 2 ^ n.toNat)) else none
def srK (k : IntKind) (x n : Int) : Option Int := if 0 ≤ n ∧ n ≤ k.bits then some (x / 2 ^ n.toNat) else none
def mn (x y : Int) : Int := if y < x then y else x
def mx (x y : Int) : Int := if x < y then y else x
theorem ad_in {x y : Int} (h : -9223372036854775808 ≤ x + y ∧ x + y ≤ 9223372036854775807) : ad x y = x + y := IntWalk.i64_in _ (by omega)
theorem sb_in {x y : Int} (h : -9223372036854775808 ≤ x - y ∧ x - y ≤ 9223372036854775807) : sb x y = x - y := IntWalk.i64_in _ (by omega)
theorem ml_in {x y : Int} (h : -9223372036854775808 ≤ x * y ∧ x * y ≤ 9223372036854775807) : ml x y = x * y := IntWalk.i64_in _ (by omega)
section
variable {α : Type}
def capB : Nat := 1000000000
def ix (l : List α) (i : Int) : Option α := if 0 ≤ i then l[i.toNat]? else none
def cut (l : List α) (a b : Int) : Option (List α) := if 0 ≤ a ∧ a ≤ b ∧ b ≤ l.length then some ((l.take b.toNat).drop a.toNat) else none
def app (l m : List α) : Option (List α) := if l.length + m.length ≤ capB then some (l ++ m) else none
def put (l : List α) (i : Int) (x : α) : Option (List α) := if 0 ≤ i ∧ i < l.length then some (l.set i.toNat x) else none
def wn (a b i : Int) : Option Int := if 0 ≤ i ∧ i < b - a then some (a + i) else none
theorem ix_some {l : List α} {i : Int} {x : α} (h : ix l i = some x) : 0 ≤ i ∧ i.toNat < l.length ∧ l[i.toNat]? = some x := by
  unfold ix at h
  split at h
  · rename_i h0; exact ⟨h0, (List.getElem?_eq_some_iff.1 h).1, h⟩
  · cases h
theorem ix_at {l : List α} {i : Int} (h0 : 0 ≤ i) (h : i < l.length) : ix l i = some (l[i.toNat]'(by omega)) := by
  unfold ix
  rw [if_pos h0, List.getElem?_eq_getElem]
theorem ix_nat {l : List α} {i : Nat} : ix l (i : Int) = l[i]? := by unfold ix; simp
theorem cut_some {l m : List α} {a b : Int} (h : cut l a b = some m) : 0 ≤ a ∧ a ≤ b ∧ b ≤ l.length ∧ m = (l.take b.toNat).drop a.toNat ∧ m.length = b.toNat - a.toNat := by
  unfold cut at h
  split at h
  · rename_i h0
    injection h with h
    exact ⟨h0.1, h0.2.1, h0.2.2, h.symm, by rw [← h, List.length_drop, List.length_take]; omega⟩
  · cases h
theorem cut_at {l : List α} {a b : Int} (h : 0 ≤ a ∧ a ≤ b ∧ b ≤ l.length) : cut l a b = some ((l.take b.toNat).drop a.toNat) := if_pos h
theorem app_some {l m r : List α} (h : app l m = some r) : l.length + m.length ≤ capB ∧ r = l ++ m := by
  unfold app at h
  split at h
  · rename_i h0; injection h with h; exact ⟨h0, h.symm⟩
  · cases h
theorem app_at {l m : List α} (h : l.length + m.length ≤ capB) : app l m = some (l ++ m) := if_pos h
theorem put_some {l r : List α} {i : Int} {x : α} (h : put l i x = some r) : 0 ≤ i ∧ i < l.length ∧ r = l.set i.toNat x := by
  unfold put at h
  split at h
  · rename_i h0; injection h with h; exact ⟨h0.1, h0.2, h.symm⟩
  · cases h
theorem put_at {l : List α} {i : Int} {x : α} (h : 0 ≤ i ∧ i < l.length) : put l i x = some (l.set i.toNat x) := if_pos h
end
end Go.Proofs.Ytnmkonlfnpcoiaa
