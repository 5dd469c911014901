import Derived.Test.YtpbhdblkjabdlaaP11b
namespace Go.Proofs.Ytpbhdblkjabdlaa.Pl
set_option maxRecDepth 4000
abbrev Val := Int × ByteArray × Int
abbrev Att := ByteArray × Val
def vchk (v : Val) : Int :=
  if v.1 < 1 ∨ 4 < v.1 then 14
  else if (v.1 = 1 ∧ v.2.2 ≠ 0) ∨ (1 < v.1 ∧ v.2.1 ≠ ByteArray.empty) then 3
  else if (runes v.2.1).2 = false then 13
  else if 64 < v.2.1.size then 2
  else if 1152921504606846976 < v.2.2 ∨ v.2.2 < -1152921504606846976 ∨ (v.2.2 < 0 ∧ v.1 ≠ 3) ∨ (1 < v.2.2 ∧ v.1 = 4) then 5 else 0
theorem runes_empty : runes ByteArray.empty = ([], true) := rfl
theorem size_empty : ByteArray.empty.size = 0 := rfl
theorem vCheck_eq {v : Val} (hs : v.2.1.size ≤ 100000) : value_Check v = some (vchk v) := by
  obtain ⟨k, t, n⟩ := v
  replace hs : t.size ≤ 100000 := hs
  unfold value_Check vchk value_Check_k2 value_Check_k1
  dsimp only
  simp only [Right_eq hs, bind_some', eqS_eq, decide_eq_true_eq, Bool.or_eq_true, Bool.not_eq_true', decide_eq_false_iff_not]
  have hc : ((64 : Int) < (t.size : Int)) ↔ 64 < t.size := by omega
  simp only [hc]
  have ht1 : t = ByteArray.empty → t.size = 0 ∧ (runes t).2 = true := fun h => by rw [h]; exact ⟨rfl, rfl⟩
  by_cases ht : t = ByteArray.empty
  · obtain ⟨z1, z2⟩ := ht1 ht
    simp only [ht, not_true_eq_false, if_false, runes_empty, size_empty, Bool.true_eq_false, ne_eq, and_false, or_false, Nat.not_lt_zero]
    by_cases h1 : k = 1
    · subst h1
      by_cases h2 : n = 0
      · subst h2; simp
      · simp [h2]
    by_cases h3 : k = 3
    · subst h3
      simp only [show ¬ (3 : Int) = 1 by omega, if_false, if_true, false_and, show ¬ ((3 : Int) < 1 ∨ (4 : Int) < 3) by omega, not_true_eq_false, not_false_eq_true, and_false, and_true, or_false, false_or, show ¬ (3 : Int) = 4 by omega]
      by_cases hn : n < -1152921504606846976 ∨ 1152921504606846976 < n
      · rw [if_pos hn, if_pos (by omega)]
      · rw [if_neg hn, if_neg (by omega)]
    by_cases h2 : k = 2
    · subst h2
      simp only [show ¬ (2 : Int) = 1 by omega, show ¬ (2 : Int) = 3 by omega, if_false, if_true, false_and, show ¬ ((2 : Int) < 1 ∨ (4 : Int) < 2) by omega, not_true_eq_false, not_false_eq_true, and_false, and_true, or_false, false_or, show ¬ (2 : Int) = 4 by omega]
      by_cases hn : n < 0 ∨ 1152921504606846976 < n
      · rw [if_pos hn, if_pos (by omega)]
      · rw [if_neg hn, if_neg (by omega)]
    by_cases h4 : k = 4
    · subst h4
      simp only [show ¬ (4 : Int) = 1 by omega, show ¬ (4 : Int) = 3 by omega, show ¬ (4 : Int) = 2 by omega, if_false, if_true, false_and, show ¬ ((4 : Int) < 1 ∨ (4 : Int) < 4) by omega, not_true_eq_false, not_false_eq_true, and_false, and_true, or_false, false_or, show ¬ (4 : Int) = 3 by omega]
      by_cases hn : n < 0 ∨ 1 < n
      · rw [if_pos hn, if_pos (by omega)]
      · rw [if_neg hn, if_neg (by omega)]
    · simp only [h1, h2, h3, h4, if_false, show (k < 1 ∨ 4 < k) by omega, if_true]
  · simp only [ht, not_false_eq_true, if_true, ne_eq, and_true]
    by_cases h1 : k = 1
    · subst h1
      by_cases h2 : n = 0
      · subst h2
        simp
        split
        · rfl
        · split <;> rfl
      · simp [h2]
    by_cases h3 : k = 3
    · subst h3; simp
    by_cases h2 : k = 2
    · subst h2; simp
    by_cases h4 : k = 4
    · subst h4; simp
    · simp only [h1, h2, h3, h4, if_false, show (k < 1 ∨ 4 < k) by omega, if_true]
section
variable {α κ : Type} [DecidableEq κ]
def chkL (key : α → κ) (bad : α → Int) : List α → List κ → Int
  | [], _ => 0
  | a :: l, seen => if bad a ≠ 0 then bad a else if key a ∈ seen then 8 else chkL key bad l (key a :: seen)
theorem chkL_zero {key : α → κ} {bad : α → Int} : ∀ (l : List α) (s : List κ), chkL key bad l s = 0 ↔ (∀ a ∈ l, bad a = 0) ∧ (l.map key).Nodup ∧ ∀ a ∈ l, key a ∉ s
  | [], s => by simp [chkL]
  | a :: l, s => by
    unfold chkL
    by_cases h1 : bad a = 0
    · rw [if_neg (by simp [h1])]
      by_cases h2 : key a ∈ s
      · rw [if_pos h2]
        constructor
        · intro h; cases h
        · rintro ⟨_, _, h⟩; exact (h a (by simp) h2).elim
      · rw [if_neg h2, chkL_zero l]
        simp only [List.mem_cons, forall_eq_or_imp, List.map_cons, List.nodup_cons, List.mem_map]
        constructor
        · rintro ⟨h3, h4, h5⟩
          refine ⟨⟨h1, h3⟩, ⟨?_, h4⟩, h2, fun x hx hm => h5 x hx (.inr hm)⟩
          rintro ⟨x, hx, he⟩
          exact h5 x hx (.inl he)
        · rintro ⟨⟨_, h3⟩, ⟨h6, h4⟩, _, h5⟩
          refine ⟨h3, h4, fun x hx hm => ?_⟩
          rcases hm with hm | hm
          · exact h6 ⟨x, hx, hm⟩
          · exact h5 x hx hm
    · rw [if_pos h1]
      constructor
      · intro h; exact (h1 h).elim
      · rintro ⟨h, _⟩; exact (h1 (h a (by simp))).elim
theorem lk_up {K V : Type} [DecidableEq K] (k x : K) (v : V) : ∀ D : List (K × V), lkM (upM D k v) x = if x = k then some v else lkM D x
  | [] => by
    unfold upM lkM lkM
    by_cases h : x = k <;> simp [h, lkM]
  | p :: r => by
    unfold upM
    by_cases hk : k = p.1
    · rw [if_pos hk]
      unfold lkM
      by_cases h : x = k
      · rw [if_pos h, if_pos h]
      · rw [if_neg h, if_neg h, if_neg (by rw [← hk]; exact h)]
    · rw [if_neg hk]
      unfold lkM
      by_cases h : x = p.1
      · rw [if_pos h, if_neg (by rw [h]; exact fun e => hk e.symm), if_pos h]
      · rw [if_neg h, lk_up k x v r, if_neg h]
theorem chk_loop {S : Type} {body : S → Option (S ⊕ Int)} (key : α → κ) (bad : α → Int) (st : List (κ × Bool) → Nat → S) (l : List α) (d : α)
    (h1 : ∀ D (i : Nat), i < l.length → body (st D i) = if bad (l.getD i d) ≠ 0 then some (.inr (bad (l.getD i d))) else if (lkM D (key (l.getD i d))).getD false = true then some (.inr 8) else some (.inl (st (upM D (key (l.getD i d)) true) (i + 1))))
    (h2 : ∀ D, body (st D l.length) = some (.inr 0)) : ∀ (n i : Nat) (D : List (κ × Bool)) (s : List κ), l.length - i = n → i ≤ l.length → (∀ x, (lkM D x).getD false = decide (x ∈ s)) → loopO body (st D i) = some (chkL key bad (l.drop i) s) := by
  intro n
  induction n with
  | zero =>
    intro i D s hn hi hD
    have : i = l.length := by omega
    subst this
    rw [loopO_inr (h2 D), List.drop_length]; rfl
  | succ n ih =>
    intro i D s hn hi hD
    have hlt : i < l.length := by omega
    rw [drop_cons d hlt, chkL]
    have hb := h1 D i hlt
    generalize l.getD i d = a at hb ⊢
    by_cases h3 : bad a = 0
    · rw [if_neg (by simp [h3])] at hb ⊢
      rw [hD] at hb
      by_cases h4 : key a ∈ s
      · rw [decide_eq_true h4, if_pos rfl] at hb
        rw [loopO_inr hb, if_pos h4]
      · rw [decide_eq_false h4, if_neg (by decide)] at hb
        rw [loopO_inl hb, if_neg h4, ih (i + 1) _ (key a :: s) (by omega) (by omega) (fun x => by
          rw [lk_up]
          by_cases hx : x = key a
          · simp [hx]
          · rw [if_neg hx, hD x]; simp [hx])]
    · rw [if_pos h3] at hb ⊢
      exact loopO_inr hb
end
def achk (a : Att) : Int := if nmB a.1 = true then vchk a.2 else 13
def kchk (k : ByteArray) : Int := if nmB k = true then 0 else 13
def Sh (s : ByteArray) : Prop := s.size ≤ 100000
def ShA (a : Att) : Prop := Sh a.1 ∧ Sh a.2.2.1
def ShV (v : Val) : Prop := Sh v.2.1
theorem tabCheck_eq {l : List Att} (hl : l.length ≤ 100000) (hs : ∀ a ∈ l, ShA a) : table_Check l = some (if 8 < l.length then 6 else chkL (·.1) achk l []) := by
  unfold table_Check
  by_cases h : 8 < l.length
  · rw [decide_eq_true (by omega), if_pos rfl, if_pos h]
  rw [decide_eq_false (by omega), if_neg (by decide), if_neg h]
  unfold table_Check_l1
  have := chk_loop (body := fun s => table_Check_b1 l s.1 s.2) (·.1) achk (fun D i => (D, (i : Int))) l (ByteArray.empty, (0, ByteArray.empty, 0)) (fun D i hi => by
    dsimp only
    unfold table_Check_b1
    rw [dlt hi, if_pos rfl, ix_getD (ByteArray.empty, (0, ByteArray.empty, 0)) hi, bind_some']
    have ha := hs _ (getD_mem (d := (ByteArray.empty, (0, ByteArray.empty, 0))) hi)
    generalize l.getD i (ByteArray.empty, (0, ByteArray.empty, 0)) = a at ha ⊢
    rw [Name_eq ha.1, bind_some']
    unfold achk
    cases nmB a.1 with
    | false => rfl
    | true =>
      rw [Bool.not_true, if_neg (show ¬ false = true by decide), vCheck_eq ha.2, bind_some', if_pos rfl]
      by_cases hv : vchk a.2 = 0
      · rw [decide_eq_true hv, Bool.not_true, if_neg (show ¬ false = true by decide), if_neg (show ¬ vchk a.2 ≠ 0 from fun h => h hv)]
        cases (lkM D a.1).getD false with
        | true => rfl
        | false => rw [if_neg (by decide), if_neg (by decide), bind_some', ad_one (by omega)]
      · rw [decide_eq_false hv, Bool.not_false, if_pos rfl, if_pos hv]; rfl) (fun D => by
    dsimp only
    unfold table_Check_b1
    rw [dnlt (Nat.lt_irrefl _), if_neg (by decide)]; rfl) l.length 0 [] [] (by omega) (by omega) (fun x => by simp [lkM])
  exact this
def tchk (K : List ByteArray) (V : List Val) : Int := if chkL id kchk K [] ≠ 0 then chkL id kchk K [] else chkL id vchk V []
section
variable {α : Type} [DecidableEq α]
def fnd (x : α) : List α → Nat
  | [] => 0
  | a :: l => if a = x then 0 else fnd x l + 1
def adK' (l : List α) (x : α) : List α := if fnd x l < l.length then l else l ++ [x]
theorem fnd_le (x : α) : ∀ l : List α, fnd x l ≤ l.length
  | [] => Nat.le_refl _
  | a :: l => by
    unfold fnd
    have := fnd_le x l
    split
    · exact Nat.zero_le _
    · simp only [List.length_cons]; omega
theorem fnd_lt (x : α) : ∀ l : List α, fnd x l < l.length ↔ x ∈ l
  | [] => by simp [fnd]
  | a :: l => by
    unfold fnd
    have := fnd_lt x l
    by_cases h : a = x
    · simp [h]
    · rw [if_neg h]
      have h' : ¬ x = a := fun e => h e.symm
      simp [h', ← this]
theorem fnd_at (x d : α) : ∀ l : List α, x ∈ l → l.getD (fnd x l) d = x
  | [], h => by simp at h
  | a :: l, h => by
    unfold fnd
    by_cases he : a = x
    · rw [if_pos he]; exact he
    · rw [if_neg he]
      have : x ∈ l := by
        rcases List.mem_cons.1 h with h' | h'
        · exact (he h'.symm).elim
        · exact h'
      have h2 := fnd_at x d l this
      rwa [show (a :: l).getD (fnd x l + 1) d = l.getD (fnd x l) d from by simp]
theorem fnd_before (x d : α) : ∀ (l : List α) (i : Nat), i < fnd x l → l.getD i d ≠ x
  | [], i, h => by simp [fnd] at h
  | a :: l, i, h => by
    unfold fnd at h
    by_cases he : a = x
    · rw [if_pos he] at h; omega
    · rw [if_neg he] at h
      cases i with
      | zero => exact he
      | succ i =>
        have := fnd_before x d l i (by omega)
        simpa using this
theorem fnd_pre (x : α) : ∀ (l m : List α), x ∈ l → fnd x (l ++ m) = fnd x l
  | [], m, h => by simp at h
  | a :: l, m, h => by
    rw [List.cons_append]
    unfold fnd
    by_cases he : a = x
    · rw [if_pos he, if_pos he]
    · rw [if_neg he, if_neg he]
      have : x ∈ l := by
        rcases List.mem_cons.1 h with h' | h'
        · exact (he h'.symm).elim
        · exact h'
      rw [fnd_pre x l m this]
theorem fnd_not {x : α} {l : List α} (h : x ∉ l) : fnd x l = l.length := by
  have h1 := fnd_le x l
  have h2 := fnd_lt x l
  have : ¬ fnd x l < l.length := fun h' => h (h2.1 h')
  omega
theorem fnd_loop {S R : Type} {body : S → Option (S ⊕ R)} (x d : α) (st : Nat → S) (yes : Nat → R) (l : List α) (h1 : ∀ i, i < l.length → l.getD i d ≠ x → body (st i) = some (.inl (st (i + 1)))) (h2 : ∀ i, i < l.length → l.getD i d = x → body (st i) = some (.inr (yes i))) (h3 : body (st l.length) = some (.inr (yes l.length))) :
    loopO body (st 0) = some (yes (fnd x l)) := by
  rw [loopO_up st (fnd x l) (fun k hk => h1 k (by have := fnd_le x l; omega) (fnd_before x d l k hk)) 0 (Nat.zero_le _)]
  by_cases hm : x ∈ l
  · exact loopO_inr (h2 _ ((fnd_lt x l).2 hm) (fnd_at x d l hm))
  · rw [fnd_not hm]
    exact loopO_inr h3
end
theorem IndexK_eq {l : List ByteArray} (hl : l.length ≤ 100000) (x : ByteArray) : slices_Index_string_string l x = some (if fnd x l < l.length then (fnd x l : Int) else -1) := by
  unfold slices_Index_string_string slices_Index_string_string_l1
  have := fnd_loop (body := fun s => slices_Index_string_string_b1 l x s) x ByteArray.empty (fun i => (i : Int)) (fun i => if i < l.length then (i : Int) else -1) l (fun i hi hne => by
    unfold slices_Index_string_string_b1
    rw [dlt hi, if_pos rfl, ix_getD ByteArray.empty hi, bind_some', eqS_eq, decide_eq_false (fun e => hne e.symm), if_neg (by decide), ad_one (by omega)]) (fun i hi he => by
    unfold slices_Index_string_string_b1
    rw [dlt hi, if_pos rfl, ix_getD ByteArray.empty hi, bind_some', eqS_eq, decide_eq_true he.symm, if_pos rfl, if_pos hi]; rfl) (by
    unfold slices_Index_string_string_b1
    rw [dnlt (Nat.lt_irrefl _), if_neg (by decide), if_neg (Nat.lt_irrefl _)]; rfl)
  exact this
theorem IndexV_eq {l : List Val} (hl : l.length ≤ 100000) (x : Val) : slices_Index_value_Value_value_Value l x = some (if fnd x l < l.length then (fnd x l : Int) else -1) := by
  unfold slices_Index_value_Value_value_Value slices_Index_value_Value_value_Value_l1
  have := fnd_loop (body := fun s => slices_Index_value_Value_value_Value_b1 l x s) x (0, ByteArray.empty, 0) (fun i => (i : Int)) (fun i => if i < l.length then (i : Int) else -1) l (fun i hi hne => by
    unfold slices_Index_value_Value_value_Value_b1
    rw [dlt hi, if_pos rfl, ix_getD (0, ByteArray.empty, 0) hi, bind_some', decide_eq_false (fun e => hne e.symm), if_neg (by decide), ad_one (by omega)]) (fun i hi he => by
    unfold slices_Index_value_Value_value_Value_b1
    rw [dlt hi, if_pos rfl, ix_getD (0, ByteArray.empty, 0) hi, bind_some', decide_eq_true he.symm, if_pos rfl, if_pos hi]; rfl) (by
    unfold slices_Index_value_Value_value_Value_b1
    rw [dnlt (Nat.lt_irrefl _), if_neg (by decide), if_neg (Nat.lt_irrefl _)]; rfl)
  exact this
theorem placeK_eq {l : List ByteArray} (hl : l.length ≤ 100000) (x : ByteArray) : table_place_string l x = some (adK' l x, (fnd x l : Int)) := by
  unfold table_place_string adK'
  rw [IndexK_eq hl, bind_some']
  by_cases h : fnd x l < l.length
  · rw [if_pos h, if_pos h, decide_eq_true (by omega), if_pos rfl]
  · rw [if_neg h, if_neg h, if_neg (by decide)]
    unfold slices_Clip_string_string
    rw [cut_to (Nat.le_refl _), bind_some', bind_some', List.take_length, app_le (by simp only [List.length_cons, List.length_nil]; omega), bind_some', show fnd x l = l.length by have := fnd_le x l; omega]
theorem placeV_eq {l : List Val} (hl : l.length ≤ 100000) (x : Val) : table_place_value_Value l x = some (adK' l x, (fnd x l : Int)) := by
  unfold table_place_value_Value adK'
  rw [IndexV_eq hl, bind_some']
  by_cases h : fnd x l < l.length
  · rw [if_pos h, if_pos h, decide_eq_true (by omega), if_pos rfl]
  · rw [if_neg h, if_neg h, if_neg (by decide)]
    unfold slices_Clip_value_Value_value_Value
    rw [cut_to (Nat.le_refl _), bind_some', bind_some', List.take_length, app_le (by simp only [List.length_cons, List.length_nil]; omega), bind_some', show fnd x l = l.length by have := fnd_le x l; omega]
theorem adK_len {α : Type} [DecidableEq α] (l : List α) (x : α) : l.length ≤ (adK' l x).length ∧ (adK' l x).length ≤ l.length + 1 := by
  unfold adK'
  split <;> simp
end Go.Proofs.Ytpbhdblkjabdlaa.Pl
