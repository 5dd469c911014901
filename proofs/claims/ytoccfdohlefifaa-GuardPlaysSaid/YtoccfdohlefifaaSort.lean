import Derived.Test.YtoccfdohlefifaaLib
namespace Go.Proofs.Ytoccfdohlefifaa.Pl
section
variable {α : Type} (lt : α → α → Bool)
def insF (x : α) : List α → List α
  | [] => [x]
  | y :: t => if lt x y then x :: y :: t else y :: insF x t
def isort (l : List α) : List α := l.foldl (fun out x => insF lt x out) []
def mrg : List α → List α → List α
  | [], b => b
  | a :: A, [] => a :: A
  | a :: A, b :: B => if lt b a then b :: mrg (a :: A) B else a :: mrg A (b :: B)
termination_by a b => a.length + b.length
structure Wk (lt : α → α → Bool) : Prop where
  ir : ∀ x : α, lt x x = false
  tr : ∀ {x y z : α}, lt x y = true → lt y z = true → lt x z = true
  nt : ∀ {x y z : α}, lt x y = false → lt y z = false → lt x z = false
variable {lt}
theorem mrg_nil_left (b : List α) : mrg lt [] b = b := by rw [mrg]
theorem mrg_nil_right (a : List α) : mrg lt a [] = a := by cases a <;> rw [mrg]
theorem mrg_cons (a b : α) (A B : List α) : mrg lt (a :: A) (b :: B) = if lt b a then b :: mrg lt (a :: A) B else a :: mrg lt A (b :: B) := by rw [mrg]
theorem mrg_one (x : α) : ∀ A : List α, mrg lt A [x] = insF lt x A
  | [] => by rw [mrg_nil_left]; rfl
  | a :: A => by
    rw [mrg_cons, insF, mrg_nil_right, mrg_one x A]
theorem mrg_ins (h : Wk lt) (x : α) : ∀ A B : List α, mrg lt A (insF lt x B) = insF lt x (mrg lt A B)
  | [], B => by rw [mrg_nil_left, mrg_nil_left]
  | a :: A, [] => by rw [mrg_nil_right]; exact mrg_one x (a :: A)
  | a :: A, b :: B => by
    have ih1 := mrg_ins h x (a :: A) B
    have ih2 := mrg_ins h x A (b :: B)
    by_cases hb : lt x b = true
    · have e : insF lt x (b :: B) = x :: b :: B := by rw [insF, if_pos hb]
      rw [e] at ih2 ⊢
      rw [mrg_cons]
      by_cases ha : lt x a = true
      · rw [if_pos ha, mrg_cons]
        by_cases hba : lt b a = true
        · rw [if_pos hba, insF, if_pos hb]
        · rw [if_neg hba, insF, if_pos ha]
      · rw [if_neg ha, ih2, mrg_cons, if_neg (fun hba => ha (h.tr hb hba)), insF, if_neg ha]
    · have e : insF lt x (b :: B) = b :: insF lt x B := by rw [insF, if_neg hb]
      rw [e] at ih2 ⊢
      rw [mrg_cons, mrg_cons]
      by_cases hba : lt b a = true
      · rw [if_pos hba, if_pos hba, ih1, insF, if_neg hb]
      · rw [if_neg hba, if_neg hba, ih2, insF, if_neg]
        have := h.nt (show lt x b = false by simpa using hb) (show lt b a = false by simpa using hba)
        rw [this]; decide
termination_by a b => a.length + b.length
theorem mrg_foldl (h : Wk lt) (A : List α) : ∀ (b B : List α), mrg lt A (b.foldl (fun out x => insF lt x out) B) = b.foldl (fun out x => insF lt x out) (mrg lt A B)
  | [], B => rfl
  | x :: b, B => by
    rw [List.foldl_cons, List.foldl_cons, mrg_foldl h A b, mrg_ins h]
theorem mrg_isort (h : Wk lt) (A b : List α) : mrg lt A (isort lt b) = b.foldl (fun out x => insF lt x out) A := by
  rw [isort, mrg_foldl h, mrg_nil_right]
theorem isort_append (h : Wk lt) (a b : List α) : isort lt (a ++ b) = mrg lt (isort lt a) (isort lt b) := by
  rw [mrg_isort h]
  unfold isort
  rw [List.foldl_append]
theorem isort_snoc (l : List α) (x : α) : isort lt (l ++ [x]) = insF lt x (isort lt l) := by
  unfold isort
  rw [List.foldl_append]; rfl
theorem insF_perm (x : α) : ∀ l : List α, (insF lt x l).Perm (x :: l)
  | [] => List.Perm.refl _
  | y :: t => by
    unfold insF
    split
    · exact List.Perm.refl _
    · exact ((insF_perm x t).cons y).trans (List.Perm.swap x y t)
theorem foldl_perm : ∀ (l B : List α), (l.foldl (fun out x => insF lt x out) B).Perm (l ++ B)
  | [], B => List.Perm.refl _
  | x :: l, B => by
    rw [List.foldl_cons]
    refine (foldl_perm l _).trans ?_
    refine (((insF_perm x B).append_left l)).trans ?_
    exact List.perm_middle
theorem isort_perm (l : List α) : (isort lt l).Perm l := by
  have := foldl_perm (lt := lt) l []
  rwa [List.append_nil] at this
theorem isort_len (l : List α) : (isort lt l).length = l.length := (isort_perm l).length_eq
theorem insF_len (x : α) (l : List α) : (insF lt x l).length = l.length + 1 := (insF_perm x l).length_eq
def Inc (lt : α → α → Bool) (l : List α) : Prop := l.Pairwise fun a b => lt b a = false
theorem insF_inc (h : Wk lt) (x : α) : ∀ l : List α, Inc lt l → Inc lt (insF lt x l)
  | [], _ => List.pairwise_singleton _ _
  | y :: t, hl => by
    have hy := List.pairwise_cons.1 hl
    unfold insF
    split
    · rename_i hx
      refine List.pairwise_cons.2 ⟨fun z hz => ?_, hl⟩
      cases hzx : lt z x with
      | false => rfl
      | true =>
        have h1 := h.tr hzx hx
        rcases List.mem_cons.1 hz with rfl | hz
        · rw [h.ir] at h1; cases h1
        · rw [hy.1 z hz] at h1; cases h1
    · rename_i hx
      refine List.pairwise_cons.2 ⟨fun z hz => ?_, insF_inc h x t hy.2⟩
      rcases List.mem_cons.1 ((insF_perm x t).mem_iff.1 hz) with rfl | hz
      · simpa using hx
      · exact hy.1 z hz
theorem foldl_inc (h : Wk lt) : ∀ (l B : List α), Inc lt B → Inc lt (l.foldl (fun out x => insF lt x out) B)
  | [], B, hB => hB
  | x :: l, B, hB => foldl_inc h l _ (insF_inc h x B hB)
theorem isort_inc (h : Wk lt) (l : List α) : Inc lt (isort lt l) := foldl_inc h l [] List.Pairwise.nil
theorem insF_at (x : α) : ∀ (l : List α) (p : Nat), p ≤ l.length → (∀ (j : Nat) y, j < p → l[j]? = some y → lt x y = false) → (∀ (j : Nat) y, p ≤ j → l[j]? = some y → lt x y = true) → insF lt x l = l.take p ++ x :: l.drop p
  | [], p, hp, _, _ => by
    have : p = 0 := by simpa using hp
    subst this; rfl
  | y :: t, 0, _, _, h2 => by
    have := h2 0 y (Nat.zero_le _) rfl
    rw [insF, if_pos this]; rfl
  | y :: t, p + 1, hp, h1, h2 => by
    have := h1 0 y (Nat.succ_pos _) rfl
    rw [insF, this, if_neg (by decide), insF_at x t p (by simpa using hp) (fun j z hj hz => h1 (j + 1) z (by omega) (by simpa using hz)) (fun j z hj hz => h2 (j + 1) z (by omega) (by simpa using hz))]
    rfl
theorem Inc.get {l : List α} (h : Inc lt l) {i j : Nat} {a b : α} (hij : i < j) (ha : l[i]? = some a) (hb : l[j]? = some b) : lt b a = false := by
  obtain ⟨hi, ha⟩ := List.getElem?_eq_some_iff.1 ha
  obtain ⟨hj, hb⟩ := List.getElem?_eq_some_iff.1 hb
  have := List.pairwise_iff_getElem.1 h i j hi hj hij
  rwa [ha, hb] at this
theorem insF_down (h : Wk lt) (x : α) {l : List α} (hl : Inc lt l) {p : Nat} (hp : p ≤ l.length) (h1 : p = 0 ∨ ∃ y, l[p - 1]? = some y ∧ lt x y = false) (h2 : ∀ (j : Nat) y, p ≤ j → l[j]? = some y → lt x y = true) : insF lt x l = l.take p ++ x :: l.drop p := by
  refine insF_at x l p hp (fun j y hj hy => ?_) h2
  rcases h1 with rfl | ⟨z, hz, hxz⟩
  · omega
  · by_cases hjp : j = p - 1
    · subst hjp; rw [hy] at hz; injection hz with hz; rw [hz]; exact hxz
    · exact h.nt hxz (hl.get (by omega) hy hz)
end
section
variable {α : Type}
noncomputable def mergedG_b (ahead : α → α → Option Bool) (x254 : List α) (b257 : List α) (out260 : List α) : Option ((((List α) × (List α) × (List α))) ⊕ (List α)) :=
  (some ((decide ((x254.length : Int) = 0)) || (decide ((b257.length : Int) = 0)))).bind fun x310 => if x310 then ((app out260 x254).bind fun x313 => (app x313 b257).bind fun x316 => Option.map Sum.inr (some x316)) else ((ix b257 0).bind fun x321 => (ix x254 0).bind fun x322 => (ahead x321 x322).bind fun r323 => if r323 then ((ix b257 0).bind fun x329 => (app out260 [x329]).bind fun x332 => (cut b257 1 (b257.length : Int)).bind fun x335 => some (Sum.inl (x254, x335, x332))) else ((ix x254 0).bind fun x341 => (app out260 [x341]).bind fun x344 => (cut x254 1 (x254.length : Int)).bind fun x347 => some (Sum.inl (x347, b257, x344))))
noncomputable def mergedG_l (ahead : α → α → Option Bool) (s : ((List α) × (List α) × (List α))) : Option (List α) := loopO (fun s => mergedG_b ahead s.1 s.2.1 s.2.2) s
noncomputable def mergedG (ahead : α → α → Option Bool) (x1 : List α) (b2 : List α) : Option (List α) :=
  (some (ad (x1.length : Int) (b2.length : Int))).bind fun x350 => (mk0 α x350).bind fun x351 => (some ((decide ((x1.length : Int) = 0)) || (decide ((b2.length : Int) = 0)))).bind fun x357 => if x357 then ((app x351 x1).bind fun x360 => (app x360 b2).bind fun x363 => some x363) else ((ix b2 0).bind fun x368 => (ix x1 0).bind fun x369 => (ahead x368 x369).bind fun r370 => if r370 then ((ix b2 0).bind fun x376 => (app x351 [x376]).bind fun x379 => (cut b2 1 (b2.length : Int)).bind fun x382 => mergedG_l ahead (x1, x382, x379)) else ((ix x1 0).bind fun x388 => (app x351 [x388]).bind fun x391 => (cut x1 1 (x1.length : Int)).bind fun x394 => mergedG_l ahead (x394, b2, x391)))
noncomputable def sortedG_b2 (ahead : α → α → Option Bool) (run452 : Int) (out599 : List α) (x601 : Int) : Option (((List α) × Int) ⊕ (((List α) × Int) ⊕ (List α))) :=
  if (decide ((ad x601 run452) < (out599.length : Int))) then ((some (mn (ad x601 (ml 2 run452)) (out599.length : Int))).bind fun x640 => (cut out599 x601 x640).bind fun x651 => (cut out599 x601 (ad x601 run452)).bind fun x653 => (cut out599 (ad x601 run452) x640).bind fun x655 => (mergedG ahead x653 x655).bind fun r657 => (cpy out599 x601 x640 r657).bind fun l660 => some (Sum.inl (l660, ad x601 (ml 2 run452)))) else (Option.map Sum.inr (some (Sum.inl (out599, ml run452 2))))
noncomputable def sortedG_l2 (ahead : α → α → Option Bool) (run452 : Int) (s : (List α) × Int) : Option (((List α) × Int) ⊕ (List α)) := loopO (fun s => sortedG_b2 ahead run452 s.1 s.2) s
noncomputable def sortedG_b1 (ahead : α → α → Option Bool) (out450 : List α) (run452 : Int) : Option (((List α) × Int) ⊕ (List α)) :=
  if (decide (run452 < (out450.length : Int))) then (sortedG_l2 ahead run452 (out450, 0)) else (Option.map Sum.inr (some out450))
noncomputable def sortedG_l1 (ahead : α → α → Option Bool) (s : (List α) × Int) : Option (List α) := loopO (fun s => sortedG_b1 ahead s.1 s.2) s
noncomputable def sortedG (ahead : α → α → Option Bool) (l1 : List α) : Option (List α) :=
  ((app ([] : List α) l1).bind fun x28 => some x28).bind fun r340 => sortedG_l1 ahead (r340, 1)
variable {lt : α → α → Bool} {ahead : α → α → Option Bool}
theorem ix0_cons {x : α} {l : List α} : ix (x :: l) 0 = some x := rfl
theorem len0_cons {x : α} {l : List α} : decide (((x :: l).length : Int) = 0) = false := by simp only [decide_eq_false_iff_not, List.length_cons]; omega
theorem merged_loop : ∀ (n : Nat) (a b out : List α), a.length + b.length = n → out.length + n ≤ 1000000 → (∀ x ∈ b, ∀ y ∈ a, ahead x y = some (lt x y)) → mergedG_l ahead (a, b, out) = some (out ++ mrg lt a b) := by
  intro n
  induction n with
  | zero =>
    intro a b out h hc _
    obtain rfl : a = [] := List.length_eq_zero_iff.1 (by omega)
    obtain rfl : b = [] := List.length_eq_zero_iff.1 (by omega)
    refine loopO_inr ?_
    unfold mergedG_b
    simp only [List.length_nil, Int.natCast_zero, decide_true, Bool.true_or, bind_some', if_true]
    rw [app_le (by simp; omega), bind_some', app_le (by simp; omega), bind_some', mrg_nil_left, List.append_nil]; rfl
  | succ n ih =>
    intro a b out h hc hah
    cases a with
    | nil =>
      refine loopO_inr ?_
      unfold mergedG_b
      simp only [List.length_nil, Int.natCast_zero, decide_true, Bool.true_or, bind_some', if_true]
      rw [app_le (by simp; omega), bind_some', app_le (by simp at h ⊢; omega), bind_some', mrg_nil_left, List.append_nil]; rfl
    | cons x a =>
      cases b with
      | nil =>
        refine loopO_inr ?_
        unfold mergedG_b
        simp only [List.length_nil, Int.natCast_zero, decide_true, Bool.or_true, bind_some', if_true]
        rw [app_le (by simp at h ⊢; omega), bind_some', app_le (by simp at h ⊢; omega), bind_some', mrg_nil_right, List.append_nil]; rfl
      | cons y b =>
        have hxy := hah y (by simp) x (by simp)
        simp only [List.length_cons] at h
        by_cases hl : lt y x = true
        · have hb : mergedG_b ahead (x :: a) (y :: b) out = some (.inl (x :: a, b, out ++ [y])) := by
            unfold mergedG_b
            simp only [len0_cons, Bool.or_self, bind_some', Bool.false_eq_true, if_false, ix0_cons, hxy, hl, if_true]
            rw [app_le (by simp; omega), bind_some', cut_cons, bind_some']
          refine (loopO_inl hb).trans ?_
          rw [show loopO _ _ = _ from ih (x :: a) b (out ++ [y]) (by simp; omega) (by simp; omega) (fun u hu v hv => hah u (by simp [hu]) v hv), mrg_cons, if_pos hl]
          simp
        · have hl : lt y x = false := by simpa using hl
          have hb : mergedG_b ahead (x :: a) (y :: b) out = some (.inl (a, y :: b, out ++ [x])) := by
            unfold mergedG_b
            simp only [len0_cons, Bool.or_self, bind_some', Bool.false_eq_true, if_false, ix0_cons, hxy, hl]
            rw [app_le (by simp; omega), bind_some', cut_cons, bind_some']
          refine (loopO_inl hb).trans ?_
          rw [show loopO _ _ = _ from ih a (y :: b) (out ++ [x]) (by simp; omega) (by simp; omega) (fun u hu v hv => hah u hu v (by simp [hv])), mrg_cons, hl]
          simp
theorem merged_eq (a b : List α) (hc : a.length + b.length ≤ 1000000) (hah : ∀ x ∈ b, ∀ y ∈ a, ahead x y = some (lt x y)) : mergedG ahead a b = some (mrg lt a b) := by
  unfold mergedG
  rw [ad_in (by omega), bind_some', show mk0 α ((a.length : Int) + (b.length : Int)) = some [] from if_pos ⟨by omega, by simp only [capB]; omega⟩, bind_some', bind_some']
  cases a with
  | nil =>
    simp only [List.length_nil, Int.natCast_zero, decide_true, Bool.true_or, if_true]
    rw [app_le (by simp), bind_some', app_le (by simp at hc ⊢; omega), bind_some', mrg_nil_left]; rfl
  | cons x a =>
    cases b with
    | nil =>
      simp only [List.length_nil, Int.natCast_zero, decide_true, Bool.or_true, if_true]
      rw [app_le (by simp at hc ⊢; omega), bind_some', app_le (by simp at hc ⊢; omega), bind_some', mrg_nil_right]; simp
    | cons y b =>
      have hxy := hah y (by simp) x (by simp)
      simp only [List.length_cons] at hc
      simp only [len0_cons, Bool.or_self, Bool.false_eq_true, if_false, ix0_cons, bind_some', hxy]
      rw [mrg_cons]
      cases lt y x with
      | true =>
        simp only [if_true]
        rw [app_le (by simp), bind_some', cut_cons, bind_some', merged_loop (lt := lt) _ (x :: a) b _ rfl (by simp; omega) (fun u hu v hv => hah u (by simp [hu]) v hv)]; rfl
      | false =>
        simp only [Bool.false_eq_true, if_false]
        rw [app_le (by simp), bind_some', cut_cons, bind_some', merged_loop (lt := lt) _ a (y :: b) _ rfl (by simp; omega) (fun u hu v hv => hah u hu v (by simp [hv]))]; rfl
theorem drop_take_left {l m : List α} {a b : Nat} (h : a + b ≤ l.length) : ((l ++ m).drop a).take b = (l.drop a).take b := by
  rw [List.drop_append_of_le_length (by omega), List.take_append_of_le_length (by rw [List.length_drop]; omega)]
structure Runs (lt : α → α → Bool) (l : List α) (r m : Nat) (out : List α) : Prop where
  len : out.length = l.length
  two : ∀ i, i < m → (out.drop (i * (2 * r))).take (2 * r) = isort lt ((l.drop (i * (2 * r))).take (2 * r))
  one : ∀ i, 2 * m ≤ i → (out.drop (i * r)).take r = isort lt ((l.drop (i * r)).take r)
theorem runs_start (l : List α) : Runs lt l 1 0 l := ⟨rfl, fun i h => by omega, fun i _ => by
  rw [Nat.mul_one]
  cases h : l.drop i with
  | nil => rfl
  | cons x t => rfl⟩
theorem runs_next {l out : List α} {r m : Nat} (h : Runs lt l r m out) (hr : l.length ≤ m * (2 * r) + r) : Runs lt l (2 * r) 0 out := by
  refine ⟨h.len, fun i hi => by omega, fun i _ => ?_⟩
  by_cases hi : i < m
  · exact h.two i hi
  · have h1 := h.one (2 * i) (by omega)
    have e : 2 * i * r = i * (2 * r) := by rw [Nat.mul_comm 2 i, Nat.mul_assoc]
    rw [e] at h1
    have hle : m * (2 * r) ≤ i * (2 * r) := Nat.mul_le_mul_right _ (by omega)
    have hlen := h.len
    rw [List.take_of_length_le (by rw [List.length_drop]; omega), List.take_of_length_le (l := l.drop (i * (2 * r))) (by rw [List.length_drop]; omega)] at h1
    rw [List.take_of_length_le (by rw [List.length_drop]; omega), List.take_of_length_le (l := l.drop (i * (2 * r))) (by rw [List.length_drop]; omega)]
    exact h1
theorem runs_step (hw : Wk lt) {l out : List α} {r m : Nat} (h : Runs lt l r m out) (hr0 : 0 < r) (hr : m * (2 * r) + r < l.length) (hah : ∀ x ∈ l, ∀ y ∈ l, ahead x y = some (lt x y)) (hl : l.length ≤ 1000000) :
    ∃ out', sortedG_b2 ahead (r : Int) out ((m * (2 * r) : Nat) : Int) = some (.inl (out', (((m + 1) * (2 * r) : Nat) : Int))) ∧ Runs lt l r (m + 1) out' := by
  have hlen := h.len
  generalize hat : m * (2 * r) = at_ at *
  obtain ⟨en, hE⟩ : ∃ en, en = min (at_ + 2 * r) l.length ∧ ((at_ + 2 * r ≤ l.length ∧ en = at_ + 2 * r) ∨ (l.length < at_ + 2 * r ∧ en = l.length)) := ⟨_, rfl, by omega⟩
  obtain ⟨hen, hE⟩ := hE
  have e1 : ad (at_ : Int) (r : Int) = ((at_ + r : Nat) : Int) := by rw [ad_in (by omega)]; omega
  have e2 : ml 2 (r : Int) = ((2 * r : Nat) : Int) := by rw [ml_in (by omega)]; omega
  have e3 : ad (at_ : Int) ((2 * r : Nat) : Int) = ((at_ + 2 * r : Nat) : Int) := by rw [ad_in (by omega)]; omega
  have e4 : mn ((at_ + 2 * r : Nat) : Int) (out.length : Int) = (en : Int) := by rw [mn_eq, hlen, hen]; omega
  clear hen
  have e5 : (m + 1) * (2 * r) = at_ + 2 * r := by rw [Nat.add_mul, hat, Nat.one_mul]
  -- the two runs
  have h1 := h.one (2 * m) (Nat.le_refl _)
  have h2 := h.one (2 * m + 1) (by omega)
  have f1 : 2 * m * r = at_ := by rw [← hat, Nat.mul_comm 2 m, Nat.mul_assoc]
  have f2 : (2 * m + 1) * r = at_ + r := by rw [Nat.add_mul, f1, Nat.one_mul]
  rw [f1] at h1
  rw [f2] at h2
  have hone : ∀ i, 2 * (m + 1) ≤ i → (out.drop (i * r)).take r = isort lt ((l.drop (i * r)).take r) := fun i hi => h.one i (by omega)
  have hgeq : ∀ i, 2 * (m + 1) ≤ i → at_ + 2 * r ≤ i * r := fun i hi => by
    have : (2 * (m + 1)) * r ≤ i * r := Nat.mul_le_mul_right _ hi
    have e6 : (2 * (m + 1)) * r = at_ + 2 * r := by rw [← e5, Nat.mul_comm 2 (m + 1), Nat.mul_assoc]
    omega
  have htwo := h.two
  have hleq : ∀ i, i < m → i * (2 * r) + 2 * r ≤ at_ := fun i hi => by
    have : (i + 1) * (2 * r) ≤ m * (2 * r) := Nat.mul_le_mul_right _ (by omega)
    rw [Nat.add_mul, hat] at this; omega
  clear h f1 f2
  have hA : (out.take (at_ + r)).drop at_ = isort lt ((l.drop at_).take r) := by rw [← h1, List.drop_take]; congr 1; omega
  have hB : (out.take en).drop (at_ + r) = isort lt ((l.drop (at_ + r)).take r) := by
    rw [← h2, List.drop_take]
    rcases hE with ⟨hc, rfl⟩ | ⟨hc, rfl⟩
    · congr 1; omega
    · rw [List.take_of_length_le (by rw [List.length_drop]; omega), List.take_of_length_le (l := out.drop (at_ + r)) (by rw [List.length_drop]; omega)]
  have hAB : mrg lt (isort lt ((l.drop at_).take r)) (isort lt ((l.drop (at_ + r)).take r)) = isort lt ((l.drop at_).take (2 * r)) := by
    rw [← isort_append hw]
    congr 1
    rw [show 2 * r = r + r by omega, List.take_add, List.drop_drop]
  have lenA : (isort lt ((l.drop at_).take r)).length ≤ l.length := by rw [isort_len, List.length_take, List.length_drop]; omega
  have lenB : (isort lt ((l.drop (at_ + r)).take r)).length ≤ l.length := by rw [isort_len, List.length_take, List.length_drop]; omega
  have lenAB : (isort lt ((l.drop at_).take r)).length + (isort lt ((l.drop (at_ + r)).take r)).length ≤ l.length := by rw [isort_len, isort_len, List.length_take, List.length_drop, List.length_take, List.length_drop]; omega
  have hR := merged_eq (lt := lt) (ahead := ahead) (isort lt ((l.drop at_).take r)) (isort lt ((l.drop (at_ + r)).take r)) (by omega) (fun x hx y hy =>
    hah x (List.mem_of_mem_drop (List.mem_of_mem_take ((isort_perm _).mem_iff.1 hx))) y (List.mem_of_mem_drop (List.mem_of_mem_take ((isort_perm _).mem_iff.1 hy))))
  rw [hAB] at hR
  have lenR : (isort lt ((l.drop at_).take (2 * r))).length = en - at_ := by
    rw [isort_len, List.length_take, List.length_drop]
    rcases hE with ⟨hc, rfl⟩ | ⟨hc, rfl⟩ <;> omega
  generalize hRR : isort lt ((l.drop at_).take (2 * r)) = R at *
  have hen : at_ + r < en ∧ en ≤ l.length := by omega
  refine ⟨out.take at_ ++ R ++ out.drop (at_ + R.length), ?_, ?_⟩
  · unfold sortedG_b2
    have hd : decide (((at_ + r : Nat) : Int) < (out.length : Int)) = true := dlt (by omega)
    simp only [e1, e2, e3, e4, hd, if_true, bind_some']
    rw [cut_nat (by omega) (by omega), bind_some', cut_nat (by omega) (by omega), bind_some', cut_nat (by omega) (by omega), bind_some', hA, hB, hR, bind_some', e5]
    rw [show cpy out ((at_ : Nat) : Int) ((en : Nat) : Int) R = some (out.take at_ ++ R ++ out.drop (at_ + R.length)) from by
      unfold cpy
      have q1 : (at_ : Int) < (en : Int) := by omega
      have q2 : (en : Int) ≤ (out.length : Int) := by rw [hlen]; omega
      have q3 : 0 < R.length := by rw [lenR]; omega
      rw [if_pos ⟨by omega, q1, q2, q3⟩]
      simp only [Int.toNat_natCast]
      rw [List.take_of_length_le (l := R) (by omega), Nat.min_eq_left (by omega)], bind_some']
  · have hat' : (out.take at_).length = at_ := by rw [List.length_take]; omega
    refine ⟨by simp only [List.length_append, List.length_drop, hat']; omega, fun i hi => ?_, fun i hi => ?_⟩
    · by_cases him : i = m
      · subst him
        rw [hat, hRR, List.append_assoc, List.drop_append_of_le_length (by omega), List.drop_of_length_le (by omega), List.nil_append]
        rcases hE with ⟨hc, he⟩ | ⟨hc, he⟩
        · rw [List.take_append_of_le_length (by omega), List.take_of_length_le (by omega)]
        · rw [List.drop_of_length_le (by omega), List.append_nil, List.take_of_length_le (by omega)]
      · have hlt := hleq i (by omega)
        rw [List.append_assoc, drop_take_left (by omega), ← htwo i (by omega), List.drop_take, List.take_take, Nat.min_eq_left (by omega)]
    · have hge := hgeq i hi
      rw [← hone i hi, List.append_assoc, List.drop_append, List.drop_of_length_le (by omega), List.nil_append, List.drop_append, List.drop_of_length_le (by omega), List.nil_append, List.drop_drop]
      congr 2
      omega
theorem sorted_eq (hw : Wk lt) (l : List α) (hl : l.length ≤ 1000000) (hah : ∀ x ∈ l, ∀ y ∈ l, ahead x y = some (lt x y)) : sortedG ahead l = some (isort lt l) := by
  unfold sortedG sortedG_l1
  rw [app_le (by simp; omega), bind_some', bind_some', List.nil_append]
  obtain ⟨r, hr, hR⟩ := loopO_rule (body := fun s => sortedG_b1 ahead s.1 s.2) (fun s => ∃ r : Nat, 0 < r ∧ r ≤ 2 * l.length + 1 ∧ s.2 = (r : Int) ∧ Runs lt l r 0 s.1) (fun s => l.length + 1 - s.2.toNat) (fun x => x = isort lt l) (fun s hs => by
    obtain ⟨out, rr⟩ := s
    obtain ⟨r, h0, h1, h2, h3⟩ := hs
    simp only at h2 h3
    subst h2
    have hlen := h3.len
    by_cases hc : r < l.length
    · left
      -- one pass
      obtain ⟨q, hq, out', m', hq1, hq2⟩ : ∃ q, loopO (fun s => sortedG_b2 ahead (r : Int) s.1 s.2) (out, 0) = some q ∧ ∃ out' m', q = .inl (out', ((2 * r : Nat) : Int)) ∧ Runs lt l r m' out' ∧ l.length ≤ m' * (2 * r) + r := by
        obtain ⟨q, hq, hQ⟩ := loopO_rule (body := fun s => sortedG_b2 ahead (r : Int) s.1 s.2) (fun s => ∃ m : Nat, s.2 = ((m * (2 * r) : Nat) : Int) ∧ m * (2 * r) ≤ l.length + 2 * r ∧ Runs lt l r m s.1) (fun s => l.length + 2 * r - s.2.toNat) (fun q => ∃ out' m', q = .inl (out', ((2 * r : Nat) : Int)) ∧ Runs lt l r m' out' ∧ l.length ≤ m' * (2 * r) + r) (fun s hs => by
          obtain ⟨o, a⟩ := s
          obtain ⟨m, g1, g2, g3⟩ := hs
          simp only at g1 g3
          subst g1
          by_cases hm : m * (2 * r) + r < l.length
          · left
            obtain ⟨o', k1, k2⟩ := runs_step hw g3 h0 hm hah hl
            refine ⟨_, k1, ⟨m + 1, rfl, ?_, k2⟩, ?_⟩
            · rw [Nat.add_mul, Nat.one_mul]; omega
            · simp only [Int.toNat_natCast]
              rw [Nat.add_mul, Nat.one_mul]; omega
          · right
            refine ⟨.inl (o, ((2 * r : Nat) : Int)), ?_, o, m, rfl, g3, by omega⟩
            unfold sortedG_b2
            have e1 : ad ((m * (2 * r) : Nat) : Int) (r : Int) = ((m * (2 * r) + r : Nat) : Int) := by rw [ad_in (by omega)]; omega
            have hd : decide (((m * (2 * r) + r : Nat) : Int) < (o.length : Int)) = false := dnlt (by rw [g3.len]; exact hm)
            simp only [e1, hd, Bool.false_eq_true, if_false]
            rw [ml_in (by omega)]
            have : (r : Int) * 2 = ((2 * r : Nat) : Int) := by omega
            rw [this]; rfl) (s := (out, 0)) ⟨0, by simp, by omega, h3⟩
        exact ⟨q, hq, hQ⟩
      refine ⟨(out', ((2 * r : Nat) : Int)), ?_, ⟨2 * r, by omega, by omega, rfl, runs_next hq2.1 hq2.2⟩, ?_⟩
      · show sortedG_b1 ahead out (r : Int) = _
        unfold sortedG_b1 sortedG_l2
        rw [dlt (by omega), if_pos rfl, hq, hq1]
      · simp only [Int.toNat_natCast]; omega
    · right
      refine ⟨out, ?_, ?_⟩
      · show sortedG_b1 ahead out (r : Int) = _
        unfold sortedG_b1
        rw [dnlt (by omega), if_neg (by decide)]; rfl
      · have := h3.one 0 (Nat.le_refl _)
        rw [Nat.zero_mul, List.drop_zero, List.drop_zero, List.take_of_length_le (by omega), List.take_of_length_le (l := l) (by omega)] at this
        exact this) (s := (l, 1)) ⟨1, by omega, by omega, rfl, runs_start l⟩
  rw [hr, hR]
end
end Go.Proofs.Ytoccfdohlefifaa.Pl
