import Derived.Test.YtpbhdblkjabdlaaP11c
namespace Go.Proofs.Ytpbhdblkjabdlaa.Pl
set_option maxRecDepth 4000
abbrev dA : Att := (ByteArray.empty, (0, ByteArray.empty, 0))
abbrev dV : Val := (0, ByteArray.empty, 0)
def lchk (l : List Att) : Int := if 8 < l.length then 6 else chkL (·.1) achk l []
def addT : List Att → List ByteArray → List Val → List Int → List ByteArray × List Val × List Int
  | [], K, V, o => (K, V, o)
  | a :: l, K, V, o => addT l (adK' K a.1) (adK' V a.2) (o ++ [(fnd a.1 K : Int), (fnd a.2 V : Int)])
theorem Add_eq {K : List ByteArray} {V : List Val} {l : List Att} (hK : K.length ≤ 1000) (hV : V.length ≤ 1000) (hl : l.length ≤ 1000) (hs : ∀ a ∈ l, ShA a) :
    table_Table_Add (K, V) l = some (if lchk l = 0 then ((addT l K V []).2.2, 0, ((addT l K V []).1, (addT l K V []).2.1)) else ([], lchk l, (K, V))) := by
  unfold table_Table_Add
  rw [tabCheck_eq (by omega) hs, bind_some']
  show (if (!decide (lchk l = 0)) = true then _ else _) = _
  by_cases h : lchk l = 0
  · rw [if_pos h, decide_eq_true h, Bool.not_true, if_neg (show ¬ false = true by decide)]
    unfold table_Table_Add_l1
    dsimp only
    have : ∀ (n i : Nat) (K : List ByteArray) (V : List Val) (o : List Int), l.length - i = n → i ≤ l.length → K.length + n ≤ 10000 → V.length + n ≤ 10000 → o.length + 2 * n ≤ 10000 →
        loopO (fun s => table_Table_Add_b1 l s.1 s.2.1 s.2.2.1 s.2.2.2) (K, V, o, (i : Int)) = some ((addT (l.drop i) K V o).2.2, 0, ((addT (l.drop i) K V o).1, (addT (l.drop i) K V o).2.1)) := by
      intro n
      induction n with
      | zero =>
        intro i K V o hn hi h1 h2 h3
        have : i = l.length := by omega
        subst this
        refine loopO_inr ?_
        dsimp only
        unfold table_Table_Add_b1
        rw [dnlt (Nat.lt_irrefl _), if_neg (by decide), List.drop_length]; rfl
      | succ n ih =>
        intro i K V o hn hi h1 h2 h3
        have hlt : i < l.length := by omega
        have e : table_Table_Add_b1 l K V o (i : Int) = some (.inl (adK' K (l.getD i dA).1, adK' V (l.getD i dA).2, o ++ [(fnd (l.getD i dA).1 K : Int), (fnd (l.getD i dA).2 V : Int)], ((i + 1 : Nat) : Int))) := by
          unfold table_Table_Add_b1
          rw [dlt hlt, if_pos rfl, ix_getD dA hlt, bind_some', placeK_eq (by omega), bind_some', placeV_eq (by omega), bind_some', app_le (by simp only [List.length_cons, List.length_nil]; omega), bind_some', ad_one (by omega)]
        rw [loopO_inl e, drop_cons dA hlt, addT]
        refine ih (i + 1) _ _ _ (by omega) (by omega) ?_ ?_ ?_
        · have := (adK_len K (l.getD i dA).1).2; omega
        · have := (adK_len V (l.getD i dA).2).2; omega
        · simp only [List.length_append, List.length_cons, List.length_nil]; omega
    exact this l.length 0 K V [] (by omega) (by omega) (by omega) (by omega) (by simp only [List.length_nil]; omega)
  · rw [if_neg h, decide_eq_false h, Bool.not_false, if_pos rfl]; rfl
def hasK (x : ByteArray) (out : List Att) : Bool := out.any fun p => decide (p.1 = x)
def atS (K : List ByteArray) (V : List Val) : List Int → List Att → List Att × Int
  | k :: v :: l, out => if k < 0 ∨ (K.length : Int) ≤ k ∨ v < 0 ∨ (V.length : Int) ≤ v then ([], 5) else if hasK (K.getD k.toNat ByteArray.empty) out = true then ([], 8) else atS K V l (out ++ [(K.getD k.toNat ByteArray.empty, V.getD v.toNat dV)])
  | _, out => (out, 0)
def attr (K : List ByteArray) (V : List Val) (tags : List Int) : List Att × Int :=
  if tags.length % 2 = 1 then ([], 3) else if 16 < tags.length then ([], 6) else atS K V tags []
theorem rm2 (n : Nat) : rmK (n : Int) 2 = some ((n % 2 : Nat) : Int) := by
  unfold rmK
  rw [if_neg (by decide), Int.tmod_eq_emod_of_nonneg (by omega)]
  congr 1
theorem ix_int {α : Type} {l : List α} {k : Int} (d : α) (h : 0 ≤ k ∧ k < l.length) : ix l k = some (l.getD k.toNat d) := by
  obtain ⟨n, rfl⟩ : ∃ n : Nat, k = n := ⟨k.toNat, by omega⟩
  rw [ix_getD d (by omega), Int.toNat_natCast]
theorem dis4 {a b c d : Prop} [Decidable a] [Decidable b] [Decidable c] [Decidable d] : ((decide a || decide b) || decide c || decide d) = decide (a ∨ b ∨ c ∨ d) := by
  rw [Bool.eq_iff_iff]; simp only [Bool.or_eq_true, decide_eq_true_eq]; constructor
  · rintro (((h | h) | h) | h)
    · exact .inl h
    · exact .inr (.inl h)
    · exact .inr (.inr (.inl h))
    · exact .inr (.inr (.inr h))
  · rintro (h | h | h | h)
    · exact .inl (.inl (.inl h))
    · exact .inl (.inl (.inr h))
    · exact .inl (.inr h)
    · exact .inr h
theorem hasK_snoc (x y : ByteArray) (v : Val) (out : List Att) : hasK x (out ++ [(y, v)]) = (hasK x out || decide (x = y)) := by
  unfold hasK
  rw [List.any_append]
  congr 1
  simp only [List.any_cons, List.any_nil, Bool.or_false]
  rw [decide_eq_decide]; exact eq_comm
theorem Attrs_eq {K : List ByteArray} {V : List Val} {tags : List Int} (ht : tags.length ≤ 1000) : table_Table_Attrs (K, V) tags = some (attr K V tags) := by
  unfold table_Table_Attrs attr
  rw [rm2, bind_some']
  by_cases h1 : tags.length % 2 = 1
  · rw [if_pos h1, h1, decide_eq_false (by omega), Bool.not_false, if_pos rfl]
  rw [if_neg h1, show tags.length % 2 = 0 by omega, decide_eq_true (by omega), Bool.not_true, if_neg (show ¬ false = true by decide)]
  by_cases h2 : 16 < tags.length
  · rw [if_pos h2, decide_eq_true (by omega), if_pos rfl]
  rw [if_neg h2, decide_eq_false (by omega), if_neg (show ¬ false = true by decide)]
  unfold table_Table_Attrs_l1
  have : ∀ (n i : Nat) (D : List (ByteArray × Bool)) (out : List Att), tags.length = i + 2 * n → out.length ≤ i → (∀ x, (lkM D x).getD false = hasK x out) →
      loopO (fun s => table_Table_Attrs_b1 (K, V) tags s.1 s.2.1 s.2.2) (D, out, (i : Int)) = some (atS K V (tags.drop i) out) := by
    intro n
    induction n with
    | zero =>
      intro i D out hi ho hD
      have : i = tags.length := by omega
      subst this
      refine loopO_inr ?_
      dsimp only
      unfold table_Table_Attrs_b1
      rw [dnlt (Nat.lt_irrefl _), if_neg (by decide), List.drop_length]; rfl
    | succ n ih =>
      intro i D out hi ho hD
      have h3 : i < tags.length := by omega
      have h4 : i + 1 < tags.length := by omega
      rw [drop_cons 0 h3, drop_cons 0 h4, atS]
      have e : table_Table_Attrs_b1 (K, V) tags D out (i : Int) = if tags.getD i 0 < 0 ∨ (K.length : Int) ≤ tags.getD i 0 ∨ tags.getD (i + 1) 0 < 0 ∨ (V.length : Int) ≤ tags.getD (i + 1) 0 then some (.inr ([], 5)) else if hasK (K.getD (tags.getD i 0).toNat ByteArray.empty) out = true then some (.inr ([], 8)) else some (.inl (upM D (K.getD (tags.getD i 0).toNat ByteArray.empty) true, out ++ [(K.getD (tags.getD i 0).toNat ByteArray.empty, V.getD (tags.getD (i + 1) 0).toNat dV)], ((i + 2 : Nat) : Int))) := by
        unfold table_Table_Attrs_b1
        rw [dlt h3, if_pos rfl, ix_getD 0 h3, bind_some', ad_one (by omega), ix_getD 0 h4, bind_some']
        generalize tags.getD i 0 = k
        generalize tags.getD (i + 1) 0 = v
        simp only [bind_some', dis4, decide_eq_true_eq]
        by_cases h5 : k < 0 ∨ (K.length : Int) ≤ k ∨ v < 0 ∨ (V.length : Int) ≤ v
        · rw [if_pos h5, if_pos h5]; rfl
        · rw [if_neg h5, if_neg h5, ix_int ByteArray.empty ⟨by omega, by omega⟩, bind_some', hD, ix_int dV ⟨by omega, by omega⟩]
          by_cases h6 : hasK (K.getD k.toNat ByteArray.empty) out = true
          · rw [if_pos h6, if_pos h6]; rfl
          · rw [if_neg h6, if_neg h6]
            simp only [bind_some']
            rw [app_le (by simp only [List.length_cons, List.length_nil]; omega), bind_some', ad_in (by omega)]; rfl
      by_cases h5 : tags.getD i 0 < 0 ∨ (K.length : Int) ≤ tags.getD i 0 ∨ tags.getD (i + 1) 0 < 0 ∨ (V.length : Int) ≤ tags.getD (i + 1) 0
      · rw [if_pos h5] at e ⊢
        exact loopO_inr e
      · rw [if_neg h5] at e ⊢
        by_cases h6 : hasK (K.getD (tags.getD i 0).toNat ByteArray.empty) out = true
        · rw [if_pos h6] at e ⊢
          exact loopO_inr e
        · rw [if_neg h6] at e ⊢
          refine (loopO_inl e).trans (ih (i + 2) _ _ (by omega) (by simp only [List.length_append, List.length_cons, List.length_nil]; omega) fun x => ?_)
          rw [lk_up, hasK_snoc]
          by_cases hx : x = K.getD (tags.getD i 0).toNat ByteArray.empty
          · rw [if_pos hx, decide_eq_true hx, Bool.or_true]; rfl
          · rw [if_neg hx, decide_eq_false hx, Bool.or_false, hD]
  exact this (tags.length / 2) 0 [] [] (by omega) (Nat.le_refl _) (fun x => rfl)
theorem refAttrs_eq {K : List ByteArray} {V : List Val} {tags : List Int} (ht : tags.length ≤ 1000) : ref11_Attrs (K, V) tags = some (attr K V tags) := by
  unfold ref11_Attrs attr
  rw [rm2, bind_some']
  by_cases h1 : tags.length % 2 = 1
  · rw [if_pos h1, h1, decide_eq_true (by omega), if_pos rfl]
  rw [if_neg h1, show tags.length % 2 = 0 by omega, decide_eq_false (by omega), if_neg (show ¬ false = true by decide)]
  by_cases h2 : 16 < tags.length
  · rw [if_pos h2, decide_eq_true (by omega), if_pos rfl]
  rw [if_neg h2, decide_eq_false (by omega), if_neg (show ¬ false = true by decide)]
  unfold ref11_Attrs_l1
  have : ∀ (n i : Nat) (out : List Att), tags.length = i + 2 * n → out.length ≤ i →
      loopO (fun s => ref11_Attrs_b1 (K, V) tags s.1 s.2) (out, (i : Int)) = some (atS K V (tags.drop i) out) := by
    intro n
    induction n with
    | zero =>
      intro i out hi ho
      have : i = tags.length := by omega
      subst this
      refine loopO_inr ?_
      dsimp only
      unfold ref11_Attrs_b1
      rw [dnlt (Nat.lt_irrefl _), if_neg (by decide), List.drop_length]; rfl
    | succ n ih =>
      intro i out hi ho
      have h3 : i < tags.length := by omega
      have h4 : i + 1 < tags.length := by omega
      rw [drop_cons 0 h3, drop_cons 0 h4, atS]
      have e : ref11_Attrs_b1 (K, V) tags out (i : Int) = if tags.getD i 0 < 0 ∨ (K.length : Int) ≤ tags.getD i 0 ∨ tags.getD (i + 1) 0 < 0 ∨ (V.length : Int) ≤ tags.getD (i + 1) 0 then some (.inr ([], 5)) else if hasK (K.getD (tags.getD i 0).toNat ByteArray.empty) out = true then some (.inr ([], 8)) else some (.inl (out ++ [(K.getD (tags.getD i 0).toNat ByteArray.empty, V.getD (tags.getD (i + 1) 0).toNat dV)], ((i + 2 : Nat) : Int))) := by
        unfold ref11_Attrs_b1
        rw [dlt h3, if_pos rfl, ix_getD 0 h3, bind_some', ad_one (by omega), ix_getD 0 h4, bind_some']
        generalize tags.getD i 0 = k
        generalize tags.getD (i + 1) 0 = v
        simp only [bind_some', dis4, decide_eq_true_eq]
        by_cases h5 : k < 0 ∨ (K.length : Int) ≤ k ∨ v < 0 ∨ (V.length : Int) ≤ v
        · rw [if_pos h5, if_pos h5]; rfl
        · rw [if_neg h5, if_neg h5]
          unfold ref11_Attrs_l2
          have := loopO_all (body := fun s => ref11_Attrs_b2 (K, V) out (i : Int) k v s) (fun j => (j : Int)) out.length (fun j => (out.getD j dA).1 ≠ K.getD k.toNat ByteArray.empty) (Sum.inl (out ++ [(K.getD k.toNat ByteArray.empty, V.getD v.toNat dV)], ((i + 2 : Nat) : Int))) (Sum.inr (([] : List Att), (8 : Int))) (fun j hj hne => by
            unfold ref11_Attrs_b2
            dsimp only
            rw [dlt hj, if_pos rfl, ix_getD dA hj, bind_some', ix_int ByteArray.empty ⟨by omega, by omega⟩, bind_some', eqS_eq, decide_eq_false hne, if_neg (by decide), ad_one (by omega)]) (fun j hj he => by
            unfold ref11_Attrs_b2
            dsimp only
            rw [dlt hj, if_pos rfl, ix_getD dA hj, bind_some', ix_int ByteArray.empty ⟨by omega, by omega⟩, bind_some', eqS_eq, decide_eq_true (Classical.not_not.1 he), if_pos rfl]; rfl) (by
            unfold ref11_Attrs_b2
            dsimp only
            rw [dnlt (Nat.lt_irrefl _), if_neg (by decide), ix_int ByteArray.empty ⟨by omega, by omega⟩, bind_some', ix_int dV ⟨by omega, by omega⟩, bind_some', app_le (by simp only [List.length_cons, List.length_nil]; omega), bind_some', ad_in (by omega)]; rfl)
          refine this.trans ?_
          have hk : (∀ j, j < out.length → (out.getD j dA).1 ≠ K.getD k.toNat ByteArray.empty) ↔ ¬ hasK (K.getD k.toNat ByteArray.empty) out = true := by
            unfold hasK
            rw [List.any_eq_true]
            constructor
            · rintro h ⟨p, hp, he⟩
              obtain ⟨j, hj, rfl⟩ := mem_getD (d := dA) hp
              exact h j hj (by simpa using he)
            · intro h j hj he
              exact h ⟨_, getD_mem hj, by simpa using he⟩
          by_cases h6 : hasK (K.getD k.toNat ByteArray.empty) out = true
          · rw [if_pos h6, if_neg (fun h => hk.1 h h6)]
          · rw [if_neg h6, if_pos (hk.2 h6)]
      by_cases h5 : tags.getD i 0 < 0 ∨ (K.length : Int) ≤ tags.getD i 0 ∨ tags.getD (i + 1) 0 < 0 ∨ (V.length : Int) ≤ tags.getD (i + 1) 0
      · rw [if_pos h5] at e ⊢
        exact loopO_inr e
      · rw [if_neg h5] at e ⊢
        by_cases h6 : hasK (K.getD (tags.getD i 0).toNat ByteArray.empty) out = true
        · rw [if_pos h6] at e ⊢
          exact loopO_inr e
        · rw [if_neg h6] at e ⊢
          exact (loopO_inl e).trans (ih (i + 2) _ (by omega) (by simp only [List.length_append, List.length_cons, List.length_nil]; omega))
  exact this (tags.length / 2) 0 [] (by omega) (Nat.le_refl _)
theorem sgn_eq (n : Int) : ref01_Sign n = some (if 0 < n then 1 else if n < 0 then -1 else 0) := by
  unfold ref01_Sign
  by_cases h : 0 < n
  · rw [decide_eq_true h, if_pos rfl, if_pos h]
  · rw [decide_eq_false h, if_neg (by decide), if_neg h]
    by_cases h2 : n < 0
    · rw [decide_eq_true h2, if_pos rfl, if_pos h2]
    · rw [decide_eq_false h2, if_neg (by decide), if_neg h2]
theorem cmp_go (a b : List Int) (ha : a.length ≤ 100000) (hb : b.length ≤ 100000) : ∀ (n i : Nat), a.length - i = n → i ≤ a.length → i ≤ b.length → a.take i = b.take i → ∃ r, loopO (fun s => ref04_Compare_b1 a b s) (i : Int) = some r ∧ (r = 0 ↔ a = b) := by
  intro n
  induction n with
  | zero =>
    intro i hn hi hj he
    have : i = a.length := by omega
    subst this
    have hbd : ref04_Compare_b1 a b (a.length : Int) = some (.inr (if 0 < ((a.length : Int) - b.length) then 1 else if ((a.length : Int) - b.length) < 0 then -1 else 0)) := by
      unfold ref04_Compare_b1
      rw [dnlt (Nat.lt_irrefl _), Bool.false_and, bind_some', if_neg (by decide), bind_some', sb_in (by omega), sgn_eq]; rfl
    refine ⟨_, loopO_inr hbd, ?_⟩
    have : ¬ 0 < ((a.length : Int) - b.length) := by omega
    rw [if_neg this]
    constructor
    · intro h
      have hl : a.length = b.length := by
        by_cases h2 : ((a.length : Int) - b.length) < 0
        · rw [if_pos h2] at h; omega
        · omega
      rw [List.take_length, hl, List.take_length] at he; exact he
    · intro h; subst h; rw [if_neg (by omega)]
  | succ n ih =>
    intro i hn hi hj he
    have h1 : i < a.length := by omega
    by_cases h2 : i < b.length
    · by_cases h3 : a.getD i 0 = b.getD i 0
      · have e : ref04_Compare_b1 a b (i : Int) = some (.inl ((i + 1 : Nat) : Int)) := by
          unfold ref04_Compare_b1
          rw [dlt h1, dlt h2, Bool.and_self, bind_some', if_pos rfl, ix_getD 0 h1, bind_some', ix_getD 0 h2, bind_some', h3, decide_eq_false (by omega), if_neg (by decide), bind_some', bind_some', decide_eq_false (by omega), if_neg (by decide), ad_one (by omega)]
        obtain ⟨r, hr, hz⟩ := ih (i + 1) (by omega) (by omega) (by omega) (by rw [snoc_take 0 h1, snoc_take 0 h2, he, h3])
        exact ⟨r, (loopO_inl e).trans hr, hz⟩
      · have hne : a ≠ b := fun h => h3 (by rw [h])
        rcases Int.lt_or_gt_of_ne h3 with h4 | h4
        · have e : ref04_Compare_b1 a b (i : Int) = some (.inr (-1)) := by
            unfold ref04_Compare_b1
            rw [dlt h1, dlt h2, Bool.and_self, bind_some', if_pos rfl, ix_getD 0 h1, bind_some', ix_getD 0 h2, bind_some', decide_eq_true h4, if_pos rfl]; rfl
          exact ⟨_, loopO_inr e, ⟨fun h => by omega, fun h => (hne h).elim⟩⟩
        · have e : ref04_Compare_b1 a b (i : Int) = some (.inr 1) := by
            unfold ref04_Compare_b1
            rw [dlt h1, dlt h2, Bool.and_self, bind_some', if_pos rfl, ix_getD 0 h1, bind_some', ix_getD 0 h2, bind_some', decide_eq_false (by omega), if_neg (by decide), bind_some', bind_some', decide_eq_true (by omega), if_pos rfl]; rfl
          exact ⟨_, loopO_inr e, ⟨fun h => by omega, fun h => (hne h).elim⟩⟩
    · have hib : i = b.length := by omega
      have e : ref04_Compare_b1 a b (i : Int) = some (.inr 1) := by
        unfold ref04_Compare_b1
        rw [dlt h1, dnlt h2, Bool.and_false, bind_some', if_neg (by decide), bind_some', sb_in (by omega), sgn_eq, if_pos (by omega)]; rfl
      exact ⟨_, loopO_inr e, ⟨fun h => by omega, fun h => by subst h; omega⟩⟩
theorem Ints_eq {a b : List Int} (ha : a.length ≤ 100000) (hb : b.length ≤ 100000) : law04_Ints a b = some (decide (a = b)) := by
  unfold law04_Ints ref04_Compare ref04_Compare_l1
  obtain ⟨r, hr, hz⟩ := cmp_go a b ha hb a.length 0 (by omega) (by omega) (by omega) rfl
  rw [show (0 : Int) = ((0 : Nat) : Int) from rfl, hr, bind_some']
  congr 1
  rw [decide_eq_decide]; exact hz
theorem known11 : law11_known = some true := by
  have s1 : ∀ (x : ByteArray), x.size ≤ 1 → Sh x := fun x h => by unfold Sh; omega
  have sh2 : ∀ (a b : Att), a.1.size ≤ 1 → a.2.2.1.size ≤ 1 → b.1.size ≤ 1 → b.2.2.1.size ≤ 1 → ∀ x ∈ [a, b], ShA x := fun a b h1 h2 h3 h4 x hx => by
    rcases List.mem_cons.1 hx with h | h
    · subst h; exact ⟨s1 _ h1, s1 _ h2⟩
    · rw [List.mem_singleton] at h; subst h; exact ⟨s1 _ h3, s1 _ h4⟩
  unfold law11_known
  have c1 : lchk [((⟨#[97]⟩ : ByteArray), (3, ByteArray.empty, 1)), ((⟨#[98]⟩ : ByteArray), (3, ByteArray.empty, 1))] = 0 := by decide +kernel
  have c2 : lchk [((⟨#[98]⟩ : ByteArray), (3, ByteArray.empty, 2)), ((⟨#[97]⟩ : ByteArray), (3, ByteArray.empty, 1))] = 0 := by decide +kernel
  rw [Add_eq (by decide) (by decide) (by decide) (sh2 _ _ (by decide) (by decide) (by decide) (by decide)), if_pos c1, bind_some']
  have a1 : addT [((⟨#[97]⟩ : ByteArray), (3, ByteArray.empty, 1)), ((⟨#[98]⟩ : ByteArray), (3, ByteArray.empty, 1))] [] [] [] = ([⟨#[97]⟩, ⟨#[98]⟩], [(3, ByteArray.empty, 1)], [0, 0, 1, 0]) := by decide +kernel
  rw [a1]
  dsimp only
  rw [Add_eq (by decide) (by decide) (by decide) (sh2 _ _ (by decide) (by decide) (by decide) (by decide)), if_pos c2, bind_some']
  have a2 : addT [((⟨#[98]⟩ : ByteArray), (3, ByteArray.empty, 2)), ((⟨#[97]⟩ : ByteArray), (3, ByteArray.empty, 1))] [⟨#[97]⟩, ⟨#[98]⟩] [(3, ByteArray.empty, 1)] [] = ([⟨#[97]⟩, ⟨#[98]⟩], [(3, ByteArray.empty, 1), (3, ByteArray.empty, 2)], [1, 1, 0, 0]) := by decide +kernel
  rw [a2]
  dsimp only
  rw [Ints_eq (by decide) (by decide), Ints_eq (by decide) (by decide)]
  decide
theorem cutS_mn (s : ByteArray) : cutS s 0 (mn (s.size : Int) 100) = some (s.extract 0 (min s.size 100)) := by
  rw [show mn (s.size : Int) 100 = ((min s.size 100 : Nat) : Int) by unfold mn; omega, cutS_to (by omega)]
theorem cut10_eq (v : Val) : ∃ r, law10_Cut v = some r ∧ r.2.1.size ≤ 100 := by
  unfold law10_Cut
  rw [cutS_mn]
  exact ⟨_, rfl, by dsimp only; rw [ByteArray.size_extract]; omega⟩
def Cutd (l : List Att) : Prop := l.length ≤ 10 ∧ ∀ a ∈ l, a.1.size ≤ 100 ∧ a.2.2.1.size ≤ 100
theorem cut11_eq (l : List Att) : ∃ r, law11_Cut l = some r ∧ Cutd r := by
  unfold law11_Cut law11_Cut_l1
  have := loopO_rule (body := fun s => law11_Cut_b1 l s.1 s.2) (fun s => Cutd s.1 ∧ 0 ≤ s.2 ∧ s.2 ≤ 10 ∧ (s.1.length : Int) = s.2) (fun s => (10 - s.2).toNat) Cutd (fun s ⟨h1, h2, h3, h4⟩ => by
    obtain ⟨out, i⟩ := s
    dsimp only at h1 h2 h3 h4 ⊢
    unfold law11_Cut_b1
    by_cases h : i < (l.length : Int) ∧ i < 10
    · left
      rw [show (decide (i < (l.length : Int)) && decide (i < 10)) = true by simp [h], bind_some', if_pos rfl, ix_int dA ⟨h2, h.1⟩, bind_some', bind_some', cutS_mn, bind_some', bind_some']
      obtain ⟨r, hr, hz⟩ := cut10_eq (l.getD i.toNat dA).2
      rw [hr, bind_some', app_le (by simp only [List.length_cons, List.length_nil]; omega), bind_some', ad_in (by omega)]
      refine ⟨_, rfl, ⟨⟨by simp only [List.length_append, List.length_cons, List.length_nil]; omega, fun a ha => ?_⟩, by dsimp only; omega, by dsimp only; omega, by simp only [List.length_append, List.length_cons, List.length_nil]; omega⟩, by dsimp only; omega⟩
      rcases List.mem_append.1 ha with h' | h'
      · exact h1.2 a h'
      · rw [List.mem_singleton] at h'
        subst h'
        exact ⟨by dsimp only; rw [ByteArray.size_extract]; omega, hz⟩
    · right
      rw [show (decide (i < (l.length : Int)) && decide (i < 10)) = false by rw [Bool.and_eq_false_iff, decide_eq_false_iff_not, decide_eq_false_iff_not]; omega, bind_some', if_neg (by decide)]
      exact ⟨out, rfl, h1⟩) (s := (([] : List Att), (0 : Int))) ⟨⟨by decide, by simp⟩, by decide, by decide, rfl⟩
  exact this
end Go.Proofs.Ytpbhdblkjabdlaa.Pl
