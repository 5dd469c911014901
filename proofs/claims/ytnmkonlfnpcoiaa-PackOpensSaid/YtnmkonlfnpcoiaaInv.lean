import Derived.Test.YtnmkonlfnpcoiaaVoc
import Derived.Orders
import Derived.OrdersIn
namespace Go.Proofs.Ytnmkonlfnpcoiaa
open Go.RowKit
section
variable {P : Program} {ops : Array Oper} {Q : Exit → Act → World → Prop} {md : Region.Mode} {F : Fence} {m : Nat}
def backB (md : Region.Mode) (ops : Array Oper) : Bool :=
  (List.range ops.size).all fun i => ((ops[i]?).map fun o => o.after.all fun e => !Region.binds md e || decide (e.on < i)).getD true
theorem backB_spec (h : backB md ops = true) {i : Nat} {o : Oper} (ho : ops[i]? = some o) : ∀ e ∈ o.after, Region.binds md e = true → e.on < i := by
  intro e he hb
  have hi : i < ops.size := (Array.getElem?_eq_some_iff.1 ho).1
  have := List.all_eq_true.1 h i (List.mem_range.2 hi)
  simp only [ho, Option.map_some, Option.getD_some] at this
  have := Array.all_eq_true_iff_forall_mem.1 this e he
  simpa [hb] using this
theorem ready_mem {d : Array Bool} {i : Nat} (h : i ∈ Region.ready md ops d) : i < ops.size ∧ d.getD i true = false ∧ ∃ o, ops[i]? = some o ∧ ∀ e ∈ o.after, Region.binds md e = true → d.getD e.on false = true := by
  simp only [Region.ready, List.mem_filter, List.mem_range, Bool.and_eq_true, Bool.not_eq_true'] at h
  obtain ⟨h1, h2, h3⟩ := h
  refine ⟨h1, h2, ?_⟩
  cases ho : ops[i]? with
  | none => rw [ho] at h3; simp at h3
  | some o =>
    rw [ho] at h3
    simp only [Option.map_some, Option.getD_some] at h3
    refine ⟨o, rfl, fun e he hb => ?_⟩
    have := Array.all_eq_true_iff_forall_mem.1 h3 e he
    simpa [hb] using this
theorem ready_of {d : Array Bool} {i : Nat} {o : Oper} (hi : i < ops.size) (hd : d.getD i true = false) (ho : ops[i]? = some o) (ha : ∀ e ∈ o.after, Region.binds md e = true → d.getD e.on false = true) : i ∈ Region.ready md ops d := by
  simp only [Region.ready, List.mem_filter, List.mem_range, Bool.and_eq_true, Bool.not_eq_true']
  refine ⟨hi, hd, ?_⟩
  rw [ho]
  simp only [Option.map_some, Option.getD_some]
  rw [Array.all_eq_true_iff_forall_mem]
  intro e he
  cases hb : Region.binds md e
  · simp
  · simpa using ha e he hb
theorem all_done (hback : backB md ops = true) {d : Array Bool} (hs : d.size = ops.size) (h : Region.ready md ops d = []) : ∀ i, i < ops.size → d.getD i false = true := by
  intro i
  induction i using Nat.strongRecOn with
  | _ i ih =>
    intro hi
    cases hd : d.getD i false with
    | true => rfl
    | false =>
      exfalso
      have hd' : d.getD i true = false := by
        have hlt : i < d.size := by omega
        rw [Array.getD_eq_getD_getElem?, Array.getElem?_eq_getElem hlt] at hd ⊢
        exact hd
      obtain ⟨o, ho⟩ : ∃ o, ops[i]? = some o := ⟨ops[i], Array.getElem?_eq_getElem hi⟩
      have hm := ready_of (md := md) hi hd' ho (fun e he hb => ih e.on (backB_spec hback ho e he hb) (by have := backB_spec hback ho e he hb; omega))
      rw [h] at hm
      cases hm
def todo (d : Array Bool) : Nat := d.toList.countP (fun b => !b)
theorem todo_set {d : Array Bool} {i : Nat} (h : d.getD i true = false) : todo (d.setIfInBounds i true) + 1 = todo d := by
  obtain ⟨l⟩ := d
  simp only [todo, List.setIfInBounds_toArray]
  have hi : l[i]? = some false := by
    rw [Array.getD_eq_getD_getElem?] at h
    simp only [List.getElem?_toArray] at h
    cases hl : l[i]? with
    | none => rw [hl] at h; simp at h
    | some b => rw [hl] at h; simp at h; rw [h]
  clear h
  induction l generalizing i with
  | nil => simp at hi
  | cons b r ih =>
    match i, hi with
    | 0, hi =>
      simp at hi
      subst hi
      simp
    | i + 1, hi =>
      have := ih (i := i) (by simpa using hi)
      simp only [List.set_cons_succ, List.countP_cons] at this ⊢
      omega
theorem wpAnyIn_inv (I : Array Bool → Act → World → Prop) (hback : backB md ops = true)
    (hstep : ∀ (d : Array Bool) (a : Act) (w : World), I d a w → ∀ (i : Nat) (o : Oper), ops[i]? = some o → d.getD i true = false → (∀ e ∈ o.after, Region.binds md e = true → d.getD e.on false = true) → wpOpIn F m P ops Q i (I (d.setIfInBounds i true)) a w)
    (hfin : ∀ (d : Array Bool) (a : Act) (w : World), (∀ i, i < ops.size → d.getD i false = true) → I d a w → Q .normal a w) :
    ∀ (fuel : Nat) (d : Array Bool) (a : Act) (w : World), d.size = ops.size → todo d ≤ fuel → I d a w → wpAnyIn F m P md ops Q fuel d a w := by
  intro fuel
  induction fuel with
  | zero =>
    intro d a w hs ht hI
    have hr : Region.ready md ops d = [] := by
      cases hr : Region.ready md ops d with
      | nil => rfl
      | cons i r =>
        exfalso
        have hm : i ∈ Region.ready md ops d := by rw [hr]; simp
        have := todo_set (ready_mem hm).2.1
        omega
    exact ⟨hr, hfin d a w (all_done hback hs hr) hI⟩
  | succ fuel ih =>
    intro d a w hs ht hI
    refine ⟨fun hr => hfin d a w (all_done hback hs hr) hI, fun i hi => ?_⟩
    obtain ⟨h1, h2, o, ho, ha⟩ := ready_mem hi
    refine wpOpIn_mono (fun a' w' hI' => ih _ _ _ (by simpa using hs) ?_ hI') (hstep d a w hI i o ho h2 ha)
    have := todo_set h2
    omega
theorem wpF_region_inv {id : Nat} {a : Act} {w : World} (I : Array Bool → Act → World → Prop) (hm : P.follows .mixedOrders = true) (hback : backB .any ops = true)
    (h0 : I (Array.replicate ops.size false) a w.drew)
    (hstep : ∀ (d : Array Bool) (a : Act) (w : World), I d a w → ∀ (i : Nat) (o : Oper), ops[i]? = some o → d.getD i true = false → (∀ e ∈ o.after, Region.binds .any e = true → d.getD e.on false = true) → wpOpIn F m P ops Q i (I (d.setIfInBounds i true)) a w)
    (hfin : ∀ (d : Array Bool) (a : Act) (w : World), (∀ i, i < ops.size → d.getD i false = true) → I d a w → Q .normal a w) : (Code.region id ops true).wpIn F m P Q a w := by
  refine wpIn_region_any hm (wpAnyIn_inv I hback hstep hfin _ _ _ _ (by simp) ?_ h0)
  have : ∀ n : Nat, todo (Array.replicate n false) ≤ n := by
    intro n
    simp only [todo, Array.toList_replicate]
    exact Nat.le_trans (List.countP_le_length) (by simp)
  exact this _
end
theorem dset_ne (d : Array Bool) {i j : Nat} (h : j ≠ i) : (d.setIfInBounds i true).getD j false = d.getD j false := by
  rw [Array.getD_eq_getD_getElem?, Array.getD_eq_getD_getElem?, Array.getElem?_setIfInBounds_ne (Ne.symm h)]
theorem dset_false {d : Array Bool} {i : Nat} (h : d.getD i true = false) : d.getD i false = false := by
  rw [Array.getD_eq_getD_getElem?] at h ⊢
  cases hd : d[i]? with
  | none => rw [hd] at h; simp at h
  | some b => rw [hd] at h; simpa using h
theorem dset_lt {d : Array Bool} {i : Nat} (h : d.getD i true = false) : i < d.size := by
  rcases Nat.lt_or_ge i d.size with h1 | h1
  · exact h1
  · rw [Array.getD_eq_getD_getElem?, Array.getElem?_eq_none h1] at h; simp at h
theorem dset_true {d : Array Bool} {i : Nat} (h : i < d.size) : (d.setIfInBounds i true).getD i false = true := by
  rw [Array.getD_eq_getD_getElem?, Array.getElem?_setIfInBounds_self_of_lt h]; rfl
end Go.Proofs.Ytnmkonlfnpcoiaa
