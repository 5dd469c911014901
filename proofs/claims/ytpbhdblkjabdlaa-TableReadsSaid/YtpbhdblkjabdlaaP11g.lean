import Derived.Test.YtpbhdblkjabdlaaP11f
import Derived.Test.YtpbhdblkjabdlaaSort
namespace Go.Proofs.Ytpbhdblkjabdlaa.Pl
set_option maxRecDepth 4000
theorem bytesLess_dec : ∀ (x y : List UInt8), Op.bytesLess x y = decide (x < y)
  | [], [] => by simp [Op.bytesLess]
  | _ :: _, [] => by simp [Op.bytesLess]
  | [], _ :: _ => by simp [Op.bytesLess]
  | a :: x, b :: y => by
    rw [Op.bytesLess, bytesLess_dec x y]
    simp only [List.cons_lt_cons_iff]
    by_cases h1 : a < b <;> by_cases h2 : a = b <;> by_cases h3 : x < y <;> simp [h1, h2, h3]
def ltA (a b : Att) : Bool := ltS a.1 b.1
theorem ltS_dec (s t : ByteArray) : ltS s t = decide (s.data.toList < t.data.toList) := by
  unfold ltS
  rw [bytesLess_dec, ByteArray.toList_eq, ByteArray.toList_eq]
theorem Wk_ltA : Wk ltA := by
  have tr : ∀ {x y z : List UInt8}, x < y → y < z → x < z := fun h1 h2 => List.lt_trans h1 h2
  have ir : ∀ x : List UInt8, ¬ x < x := fun x => List.lt_irrefl x
  refine ⟨fun x => ?_, fun {x y z} h1 h2 => ?_, fun {x y z} h1 h2 => ?_⟩
  · unfold ltA; rw [ltS_dec, decide_eq_false_iff_not]; exact ir _
  · unfold ltA at *
    rw [ltS_dec, decide_eq_true_eq] at *
    exact tr h1 h2
  · unfold ltA at *
    rw [ltS_dec, decide_eq_false_iff_not] at *
    exact List.not_lt.2 (List.le_trans (List.not_lt.1 h2) (List.not_lt.1 h1))
theorem cmp_eq (a b : Att) : ∃ r, table_Sort_1 a b = some r ∧ (decide (r < 0)) = ltA a b := by
  unfold table_Sort_1 cmp_Compare_string cmp_isNaN_string ltA
  simp only [bind_some', eqS_eq, decide_true, Bool.not_true, Bool.false_eq_true, if_false]
  by_cases h : ltS a.1 b.1 = true
  · rw [h, if_pos rfl]; exact ⟨-1, rfl, rfl⟩
  · rw [Bool.eq_false_iff.2 h, if_neg (by decide)]
    cases hc : (!false && !decide (a.1 = b.1)) with
    | true => rw [if_pos rfl]; exact ⟨1, rfl, rfl⟩
    | false => rw [if_neg (by decide)]; exact ⟨0, rfl, rfl⟩
theorem swap_at {A B : List Att} {y x : Att} (hA : A.length + B.length ≤ 1000) : let D := A ++ y :: x :: B; ∃ l2, put D (((A.length + 1 : Nat)) : Int) y = some l2 ∧ put l2 ((A.length : Nat) : Int) x = some (A ++ x :: y :: B) := by
  intro D
  have h1 : D.length = A.length + B.length + 2 := by simp [D]; omega
  refine ⟨A ++ y :: y :: B, ?_, ?_⟩
  · rw [put_nat (by omega)]
    congr 1
    show (A ++ y :: x :: B).set (A.length + 1) y = _
    rw [List.set_append_right _ _ (by omega), show A.length + 1 - A.length = 1 by omega]; rfl
  · rw [put_nat (by simp)]
    congr 1
    rw [List.set_append_right _ _ (by omega), Nat.sub_self]; rfl
theorem ins_l2 (i : Nat) (x : Att) (R : List Att) : ∀ (A B : List Att), A.length + B.length + R.length ≤ 900 → i < 900 → Inc ltA (A ++ B) → (∀ y ∈ B, ltA x y = true) →
    slices_insertionSortCmpFunc_table_Attr_Sort_1_l2 0 (i : Int) (A ++ x :: (B ++ R), (A.length : Int)) = some (.inl (insF ltA x (A ++ B) ++ R, ((i + 1 : Nat) : Int))) := by
  intro A
  induction A using snoc_rec with
  | h0 =>
    intro B hl hi hinc hB
    unfold slices_insertionSortCmpFunc_table_Attr_Sort_1_l2
    refine loopO_inr ?_
    dsimp only
    unfold slices_insertionSortCmpFunc_table_Attr_Sort_1_b2
    rw [decide_eq_false (by simp), gd_false, bind_some', gd_false, bind_some', gd_false, bind_some', Bool.false_and, bind_some', if_neg (by decide), ad_one (by omega)]
    have : insF ltA x ([] ++ B) = x :: B := by
      have := insF_down Wk_ltA x (l := B) (by simpa using hinc) (p := 0) (Nat.zero_le _) (.inl rfl) (fun j y _ hj => hB y (List.mem_of_getElem? hj))
      simpa using this
    rw [this]; rfl
  | h1 A y ih =>
    intro B hl hi hinc hB
    rw [List.length_append, List.length_singleton] at hl
    unfold slices_insertionSortCmpFunc_table_Attr_Sort_1_l2
    obtain ⟨r, hr, hz⟩ := cmp_eq x y
    have hlen : (A ++ [y]).length = A.length + 1 := by simp
    have e1 : ix (A ++ [y] ++ x :: (B ++ R)) (((A ++ [y]).length : Nat) : Int) = some x := by
      rw [ix_nat, List.getElem?_append_right (Nat.le_refl _), Nat.sub_self]; rfl
    have e2 : ix (A ++ [y] ++ x :: (B ++ R)) (A.length : Int) = some y := by
      rw [ix_nat, List.append_assoc, List.getElem?_append_right (Nat.le_refl _), Nat.sub_self]; rfl
    have e3 : sb (((A ++ [y]).length : Nat) : Int) 1 = (A.length : Int) := by rw [hlen, sb_in (by omega)]; omega
    have hpos : decide ((0 : Int) < (((A ++ [y]).length : Nat) : Int)) = true := by rw [decide_eq_true_eq, hlen]; omega
    cases hlt : ltA x y with
    | true =>
      obtain ⟨l2, p1, p2⟩ := swap_at (A := A) (B := B ++ R) (y := y) (x := x) (by rw [List.length_append]; omega)
      have e : slices_insertionSortCmpFunc_table_Attr_Sort_1_b2 0 (i : Int) (A ++ [y] ++ x :: (B ++ R)) (((A ++ [y]).length : Nat) : Int) = some (.inl (A ++ x :: y :: (B ++ R), (A.length : Int))) := by
        unfold slices_insertionSortCmpFunc_table_Attr_Sort_1_b2
        simp only [hpos, gd_true, e1, e2, e3, hr, bind_some', hz, hlt, Bool.and_self, if_true]
        have ed : A ++ [y] ++ x :: (B ++ R) = A ++ y :: x :: (B ++ R) := by rw [List.append_assoc]; rfl
        rw [ed, hlen, p1, bind_some']
        rw [p2, bind_some']
      refine (loopO_inl e).trans ?_
      have := ih (y :: B) (by simp only [List.length_cons]; omega) hi (by rw [List.append_assoc] at hinc; exact hinc) (fun z hz' => by
        rcases List.mem_cons.1 hz' with h | h
        · rw [h]; exact hlt
        · exact hB z h)
      unfold slices_insertionSortCmpFunc_table_Attr_Sort_1_l2 at this
      rw [List.append_assoc]
      exact this
    | false =>
      refine loopO_inr ?_
      dsimp only
      unfold slices_insertionSortCmpFunc_table_Attr_Sort_1_b2
      simp only [hpos, gd_true, e1, e2, e3, hr, bind_some', hz, hlt, Bool.and_false, Bool.false_eq_true, if_false]
      rw [ad_one (by omega)]
      have := insF_down Wk_ltA x (l := A ++ [y] ++ B) hinc (p := (A ++ [y]).length) (by simp) (.inr ⟨y, by rw [hlen, Nat.add_sub_cancel, List.append_assoc, List.getElem?_append_right (Nat.le_refl _), Nat.sub_self]; rfl, hlt⟩) (fun j z hj hz' => by
        rw [List.getElem?_append_right hj] at hz'
        exact hB z (List.mem_of_getElem? hz'))
      rw [this, List.take_left', List.drop_left', List.append_assoc] <;> first | rfl | simp
theorem insSort_eq (l : List Att) (hl : l.length ≤ 800) : slices_insertionSortCmpFunc_table_Attr_Sort_1 l 0 (l.length : Int) = some (isort ltA l) := by
  unfold slices_insertionSortCmpFunc_table_Attr_Sort_1 slices_insertionSortCmpFunc_table_Attr_Sort_1_l1
  rw [ad_in (by omega)]
  cases hc : l with
  | nil =>
    refine loopO_inr ?_
    dsimp only
    unfold slices_insertionSortCmpFunc_table_Attr_Sort_1_b1
    rw [decide_eq_false (by simp), if_neg (by decide)]; rfl
  | cons a t =>
    rw [← hc]
    have hlp : 0 < l.length := by rw [hc]; simp
    have key : ∀ (n k : Nat), l.length - k = n → 1 ≤ k → k ≤ l.length → loopO (fun s => slices_insertionSortCmpFunc_table_Attr_Sort_1_b1 l 0 (l.length : Int) s.1 s.2) (isort ltA (l.take k) ++ l.drop k, (k : Int)) = some (isort ltA l) := by
      intro n
      induction n with
      | zero =>
        intro k hn h1 h2
        have : k = l.length := by omega
        subst this
        refine loopO_inr ?_
        dsimp only
        unfold slices_insertionSortCmpFunc_table_Attr_Sort_1_b1
        rw [dnlt (Nat.lt_irrefl _), if_neg (by decide), List.take_length, List.drop_length, List.append_nil]
        unfold ckl
        rw [if_pos (isort_len _)]; rfl
      | succ n ih =>
        intro k hn h1 h2
        have hlt : k < l.length := by omega
        have hlen : (isort ltA (l.take k)).length = k := by rw [isort_len, List.length_take]; omega
        refine (loopO_inl (s' := (isort ltA (l.take (k + 1)) ++ l.drop (k + 1), ((k + 1 : Nat) : Int))) ?_).trans (ih (k + 1) (by omega) (by omega) (by omega))
        dsimp only
        unfold slices_insertionSortCmpFunc_table_Attr_Sort_1_b1
        rw [dlt hlt, if_pos rfl, drop_cons dA hlt, snoc_take dA hlt, isort_snoc]
        have := ins_l2 k (l.getD k dA) (l.drop (k + 1)) (isort ltA (l.take k)) [] (by rw [hlen, List.length_drop]; simp only [List.length_nil]; omega) (by omega) (by rw [List.append_nil]; exact isort_inc Wk_ltA _) (by simp)
        rw [hlen, List.append_nil, List.nil_append] at this
        exact this
    have h1 := key (l.length - 1) 1 (by omega) (by omega) (by omega)
    have h2 : isort ltA (l.take 1) ++ l.drop 1 = l := by rw [hc]; rfl
    rw [h2] at h1
    exact h1
theorem tSort_eq (l : List Att) (hl : l.length ≤ 10) : table_Sort l = some (isort ltA l) := by
  unfold table_Sort slices_Clone_table_Attr_table_Attr
  rw [app_le (by simp only [List.length_nil]; omega), List.nil_append, bind_some', bind_some']
  unfold slices_SortStableFunc_table_Attr_table_Attr_Sort_1 slices_stableCmpFunc_table_Attr_Sort_1 slices_stableCmpFunc_table_Attr_Sort_1_l1
  have hk : ckl l (isort ltA l) = some () := by unfold ckl; rw [if_pos (isort_len _)]
  rw [loopO_inr (r := isort ltA l) (by
    dsimp only
    unfold slices_stableCmpFunc_table_Attr_Sort_1_b1
    rw [decide_eq_false (by omega), if_neg (by decide), insSort_eq l (by omega), bind_some']
    unfold slices_stableCmpFunc_table_Attr_Sort_1_l2
    rw [loopO_inr (r := isort ltA l) (by
      unfold slices_stableCmpFunc_table_Attr_Sort_1_b2
      rw [decide_eq_false (by omega), if_neg (by decide), hk]; rfl)]; rfl), bind_some', hk]; rfl
theorem rSort_eq (l : List Att) (hl : l.length ≤ 800) : ref11_Sort l = some (isort ltA l) := by
  unfold ref11_Sort ref11_Sort_l1
  have := loopO_nat (body := fun s => ref11_Sort_b1 l s.1 s.2) (fun k => (isort ltA (l.take k), (k : Int))) l.length (isort ltA l) (fun k hk => by
    dsimp only
    unfold ref11_Sort_b1
    rw [dlt hk, if_pos rfl, snoc_take dA hk, isort_snoc]
    have hlen : (isort ltA (l.take k)).length = k := by rw [isort_len, List.length_take]; omega
    have hinc := isort_inc Wk_ltA (l.take k)
    generalize isort ltA (l.take k) = out at hlen hinc ⊢
    have key : ∀ p, p ≤ k → (∀ (j : Nat) y, p ≤ j → out[j]? = some y → ltA (l.getD k dA) y = true) → ref11_Sort_l2 l out (k : Int) (p : Int) = some (.inl (insF ltA (l.getD k dA) out, ((k + 1 : Nat) : Int))) := by
      intro p
      unfold ref11_Sort_l2
      have done : ∀ p, p ≤ k → (∀ (j : Nat) y, p ≤ j → out[j]? = some y → ltA (l.getD k dA) y = true) → (p = 0 ∨ ∃ y, out[p - 1]? = some y ∧ ltA (l.getD k dA) y = false) →
          ((cut out 0 (p : Int)).bind fun x373 => (app ([] : List Att) x373).bind fun x375 => (ix l (k : Int)).bind fun x378 => (app x375 [x378]).bind fun x381 => (cut out (p : Int) (out.length : Int)).bind fun x387 => (app x381 x387).bind fun x389 => (some (Sum.inl (x389, ad (k : Int) 1)) : Option ((List Att × Int) ⊕ List Att))) = some (.inl (insF ltA (l.getD k dA) out, ((k + 1 : Nat) : Int))) := fun p hp h2 h1 => by
        rw [cut_to (by omega), bind_some', app_le (by simp only [List.length_nil, List.length_take]; omega), bind_some', ix_getD dA hk, bind_some', List.nil_append, app_le (by simp only [List.length_cons, List.length_nil, List.length_take]; omega), bind_some', cut_from (by omega), bind_some', app_le (by simp only [List.length_append, List.length_cons, List.length_nil, List.length_take, List.length_drop]; omega), bind_some', ad_one (by omega), insF_down Wk_ltA _ hinc (by omega) h1 h2, List.append_assoc]; rfl
      induction p with
      | zero =>
        intro hp h2
        refine loopO_inr ?_
        unfold ref11_Sort_b2
        rw [decide_eq_false (by decide), gd_false, bind_some', gd_false, bind_some', Bool.false_and, bind_some', if_neg (by decide)]
        have := done 0 hp h2 (.inl rfl)
        exact congrArg (Option.map Sum.inr) this
      | succ p ih =>
        intro hp h2
        have hpl : p < out.length := by omega
        have e3 : sb ((p + 1 : Nat) : Int) 1 = (p : Int) := by rw [sb_in (by omega)]; omega
        have hx : out[p]? = some (out.getD p dA) := by rw [List.getD_eq_getElem?_getD, List.getElem?_eq_getElem hpl]; rfl
        cases hlt : ltA (l.getD k dA) (out.getD p dA) with
        | true =>
          have e : ref11_Sort_b2 l out (k : Int) ((p + 1 : Nat) : Int) = some (.inl (p : Int)) := by
            unfold ref11_Sort_b2
            rw [decide_eq_true (by omega)]
            simp only [gd_true, ix_getD dA hk, e3, ix_getD dA hpl, bind_some', Bool.true_and]
            rw [if_pos (by exact hlt)]
          refine (loopO_inl e).trans (ih (by omega) fun j y hj hy => ?_)
          rcases Nat.lt_or_ge p j with h | h
          · exact h2 j y (by omega) hy
          · have : j = p := by omega
            subst this
            rw [hx] at hy; injection hy with hy; rw [← hy]; exact hlt
        | false =>
          refine loopO_inr ?_
          unfold ref11_Sort_b2
          rw [decide_eq_true (by omega)]
          simp only [gd_true, ix_getD dA hk, e3, ix_getD dA hpl, bind_some', Bool.true_and]
          rw [if_neg (by show ¬ ltA _ _ = true; rw [hlt]; decide)]
          have := done (p + 1) hp h2 (.inr ⟨_, hx, hlt⟩)
          simp only [ix_getD dA hk, bind_some'] at this
          exact congrArg (Option.map Sum.inr) this
    have := key out.length (by omega) (fun j y hj hy => by rw [List.getElem?_eq_none hj] at hy; cases hy)
    exact this) (by
    dsimp only
    unfold ref11_Sort_b1
    rw [dnlt (Nat.lt_irrefl _), if_neg (by decide), List.take_length]; rfl)
  exact this
theorem lSame_eq {a b : List Att} (ha : a.length ≤ 100000) : law11_Same a b = some (decide (a = b)) := by
  unfold law11_Same
  by_cases he : a.length = b.length
  · rw [show (!decide ((a.length : Int) = (b.length : Int))) = false by simp [he], if_neg (by decide)]
    unfold law11_Same_l1
    have hb : ∀ k, k < a.length → law11_Same_b1 a b (k : Int) = if a.getD k dA = b.getD k dA then some (.inl ((k + 1 : Nat) : Int)) else some (.inr false) := fun k hk => by
      unfold law11_Same_b1
      rw [dlt hk, if_pos rfl, ix_getD dA hk, bind_some', ix_getD dA (by omega), bind_some', eqS_eq]
      generalize a.getD k dA = x
      generalize b.getD k dA = y
      obtain ⟨x1, x2⟩ := x
      obtain ⟨y1, y2⟩ := y
      dsimp only
      by_cases h1 : x1 = y1
      · subst h1
        rw [decide_eq_true rfl, Bool.not_true, Bool.not_false, gd_true, bind_some', gd_true, bind_some', bind_some', Bool.false_or]
        by_cases h2 : x2 = y2
        · subst h2
          rw [decide_eq_true rfl, Bool.not_true, if_neg (by decide), if_pos rfl, ad_one (by omega)]
        · rw [decide_eq_false h2, Bool.not_false, if_pos rfl, if_neg (fun e => h2 (congrArg Prod.snd e))]; rfl
      · rw [decide_eq_false h1, Bool.not_false, Bool.not_true, gd_false, bind_some', gd_false, bind_some', bind_some', Bool.true_or, if_pos rfl, if_neg (fun e => h1 (congrArg Prod.fst e))]; rfl
    have := loopO_all (body := fun s => law11_Same_b1 a b s) (fun k => (k : Int)) a.length (fun k => a.getD k dA = b.getD k dA) true false (fun k hk ho => by
      rw [hb k hk, if_pos ho]) (fun k hk ho => by
      rw [hb k hk, if_neg ho]) (by
      unfold law11_Same_b1
      rw [dnlt (Nat.lt_irrefl _), if_neg (by decide)]; rfl)
    refine (show _ = _ from this).trans ?_
    congr 1
    by_cases hab : a = b
    · rw [decide_eq_true hab, if_pos (fun k _ => by rw [hab])]
    · rw [decide_eq_false hab, if_neg (fun h => hab (ext_getD dA he h))]
  · rw [show (!decide ((a.length : Int) = (b.length : Int))) = true by simp; omega, if_pos rfl, decide_eq_false (fun e => he (by rw [e]))]
def findK (key : ByteArray) : List Att → Val × Bool
  | [] => ((0, ByteArray.empty, 0), false)
  | a :: l => if a.1 = key then (a.2, true) else findK key l
theorem Find_eq {l : List Att} (hl : l.length ≤ 100000) (key : ByteArray) : table_Find l key = some (findK key l) := by
  unfold table_Find table_Find_l1
  have : ∀ (n k : Nat), l.length - k = n → k ≤ l.length → loopO (fun s => table_Find_b1 l key s) (k : Int) = some (findK key (l.drop k)) := by
    intro n
    induction n with
    | zero =>
      intro k hn hk
      have : k = l.length := by omega
      subst this
      refine loopO_inr ?_
      unfold table_Find_b1
      rw [dnlt (Nat.lt_irrefl _), if_neg (by decide), List.drop_length]; rfl
    | succ n ih =>
      intro k hn hk
      have hlt : k < l.length := by omega
      rw [drop_cons dA hlt, findK]
      have hb : table_Find_b1 l key (k : Int) = if (l.getD k dA).1 = key then some (.inr ((l.getD k dA).2, true)) else some (.inl ((k + 1 : Nat) : Int)) := by
        unfold table_Find_b1
        rw [dlt hlt, if_pos rfl, ix_getD dA hlt, bind_some', eqS_eq]
        by_cases h : (l.getD k dA).1 = key
        · rw [decide_eq_true h, if_pos rfl, if_pos h]; rfl
        · rw [decide_eq_false h, if_neg (by decide), if_neg h, ad_one (by omega)]
      by_cases h : (l.getD k dA).1 = key
      · rw [if_pos h] at hb ⊢
        exact loopO_inr hb
      · rw [if_neg h] at hb ⊢
        exact (loopO_inl hb).trans (ih (k + 1) (by omega) (by omega))
  exact this l.length 0 (by omega) (by omega)
theorem law11_TableReads_true (x0 : (List ByteArray) × (List (Int × ByteArray × Int))) (x1 : List Int) (x2 : List (ByteArray × (Int × ByteArray × Int))) (x3 : List (ByteArray × (Int × ByteArray × Int))) (x4 : ByteArray) (k0 : (∀ y4 ∈ x0.1, y4.size ≤ 9223372036854775807) ∧ (∀ y4 ∈ x0.2, I64 y4.1 ∧ y4.2.1.size ≤ 9223372036854775807 ∧ I64 y4.2.2)) (k1 : ∀ y2 ∈ x1, I64 y2) (k2 : ∀ y2 ∈ x2, y2.1.size ≤ 9223372036854775807 ∧ (I64 y2.2.1 ∧ y2.2.2.1.size ≤ 9223372036854775807 ∧ I64 y2.2.2.2)) (k3 : ∀ y2 ∈ x3, y2.1.size ≤ 9223372036854775807 ∧ (I64 y2.2.1 ∧ y2.2.2.1.size ≤ 9223372036854775807 ∧ I64 y2.2.2.2)) (k4 : x4.size ≤ 9223372036854775807) : law11_TableReads x0 x1 x2 x3 x4 = some true := by
  unfold law11_TableReads
  obtain ⟨K, V, hT, hK, hV, hsK, hsV⟩ := Table_eq x0
  obtain ⟨l, hl, hc⟩ := cut11_eq x2
  obtain ⟨m, hm, hd⟩ := cut11_eq x3
  have hl10 := hc.1
  have hm10 := hd.1
  have htl : (x1.take (min x1.length 20)).length ≤ 1000 := by rw [List.length_take]; omega
  rw [hT, bind_some', show mn (x1.length : Int) 20 = ((min x1.length 20 : Nat) : Int) by unfold mn; omega, cut_to (by omega), bind_some', Attrs_eq htl, bind_some', refAttrs_eq htl, bind_some', hl, bind_some', hm, bind_some', Find_eq (by omega), bind_some']
  have ha : (attr K V (x1.take (min x1.length 20))).1.length ≤ 100000 := by
    generalize x1.take (min x1.length 20) = tags at htl
    unfold attr
    split
    · simp
    · split
      · simp
      · have : ∀ (n : Nat) (tags : List Int) (out : List Att), tags.length ≤ n → (atS K V tags out).1.length ≤ out.length + tags.length := by
          intro n
          induction n with
          | zero =>
            intro tags out h
            have : tags = [] := List.length_eq_zero_iff.1 (by omega)
            subst this
            simp [atS]
          | succ n ih =>
            intro tags out h
            match tags with
            | [] => simp [atS]
            | [_] => simp [atS]
            | k :: v :: t =>
              simp only [List.length_cons] at h
              rw [atS]
              split
              · simp
              · split
                · simp
                · have := ih t (out ++ [(K.getD k.toNat ByteArray.empty, V.getD v.toNat dV)]) (by omega)
                  simp only [List.length_append, List.length_cons, List.length_nil] at this ⊢
                  omega
        have h2 := this tags.length tags [] (Nat.le_refl _)
        simp only [List.length_nil] at h2
        omega
  generalize attr K V (x1.take (min x1.length 20)) = r at ha
  unfold law11_TableReads_l1
  have key : ∀ k, k ≤ l.length → loopO (fun s => law11_TableReads_b1 x4 r r l m (findK x4 l) s.1 s.2.1 s.2.2) ((findK x4 (l.drop k)).1, (findK x4 (l.drop k)).2, (k : Int) - 1) = some true := by
    intro k
    induction k with
    | zero =>
      intro _
      refine loopO_inr ?_
      dsimp only
      unfold law11_TableReads_b1
      have hsl : (isort ltA l).length = l.length := isort_len l
      rw [decide_eq_false (by omega), if_neg (by decide), known11, bind_some', Bool.true_and, decide_eq_true rfl, gd_true, lSame_eq ha, bind_some', decide_eq_true rfl, Bool.and_self, bind_some', gd_true, tSort_eq l hl10, bind_some', gd_true, Ofs_eq (by omega), bind_some', gd_true, rSort_eq l (by omega), bind_some', gd_true, lSame_eq (by omega), bind_some', decide_eq_true rfl, List.drop_zero]
      rw [show decide ((findK x4 l).1 = (findK x4 l).1) = true from decide_eq_true rfl]
      simp only [Bool.and_self, bind_some', beq_self_eq_true, gd_true]
      rw [tSame_eq (by omega), bind_some', Ofs_eq (by omega), bind_some', lSame_eq (by omega), bind_some', tSame_eq (by omega)]
      simp
    | succ k ih =>
      intro hk
      have hlt : k < l.length := by omega
      rw [show (((k + 1 : Nat) : Int) - 1) = (k : Int) by omega]
      have e : law11_TableReads_b1 x4 r r l m (findK x4 l) (findK x4 (l.drop (k + 1))).1 (findK x4 (l.drop (k + 1))).2 (k : Int) = some (.inl ((findK x4 (l.drop k)).1, (findK x4 (l.drop k)).2, (k : Int) - 1)) := by
        unfold law11_TableReads_b1 law11_TableReads_k2
        rw [decide_eq_true (by omega), if_pos rfl, ix_getD dA hlt, bind_some', eqS_eq, drop_cons dA hlt, findK, bind_some', sb_in (by omega)]
        by_cases h : (l.getD k dA).1 = x4
        · rw [decide_eq_true h, if_pos rfl, if_pos h]
        · rw [decide_eq_false h, if_neg (by decide), if_neg h]
      exact (loopO_inl e).trans (ih (by omega))
  have := key l.length (Nat.le_refl _)
  rw [List.drop_length] at this
  rw [sb_in (by omega)]
  exact this
end Go.Proofs.Ytpbhdblkjabdlaa.Pl
