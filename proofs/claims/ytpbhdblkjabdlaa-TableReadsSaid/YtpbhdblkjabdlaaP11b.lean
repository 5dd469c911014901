import Derived.Test.YtpbhdblkjabdlaaP11a
namespace Go.Proofs.Ytpbhdblkjabdlaa.Pl
set_option maxRecDepth 4000
def rns (s : ByteArray) : Nat → Nat → List Nat × Bool
  | 0, _ => ([], true)
  | n + 1, i => if i < s.size then (match rnO s i with
    | some p => (p.1 :: (rns s n (i + p.2)).1, (rns s n (i + p.2)).2)
    | none => ([], false)) else ([], true)
theorem rnO_w {s : ByteArray} {i r w : Nat} (hi : i < s.size) (h : rnO s i = some (r, w)) : 1 ≤ w ∧ i + w ≤ s.size ∧ r ≤ 1114111 := by
  have := rnO_some hi h
  exact ⟨this.1, this.2.2.1, this.2.2.2.2.1⟩
theorem Count_go {s : ByteArray} (hs : s.size ≤ 100000) : ∀ (n i k : Nat), s.size - i < n → i ≤ s.size → k ≤ i →
    loopO (fun st => text_Count_b1 s st.1 st.2) ((k : Int), (i : Int)) = some (if (rns s n i).2 = true then (((k + (rns s n i).1.length : Nat) : Int), true) else (0, false)) := by
  intro n
  induction n with
  | zero => intro i k h; omega
  | succ n ih =>
    intro i k h hi hk
    rw [rns]
    by_cases h1 : i < s.size
    · rw [if_pos h1]
      cases hr : rnO s i with
      | none =>
        refine loopO_inr ?_
        dsimp only
        unfold text_Count_b1
        rw [dlt h1, if_pos rfl, bad_eq h1, hr, bind_some']; rfl
      | some p =>
        obtain ⟨r, w⟩ := p
        obtain ⟨w1, w2, w3⟩ := rnO_w h1 hr
        have e : text_Count_b1 s (k : Int) (i : Int) = some (.inl (((k + 1 : Nat) : Int), ((i + w : Nat) : Int))) := by
          unfold text_Count_b1
          rw [dlt h1, if_pos rfl, bad_eq h1, hr, bind_some', show (some (r, w)).isNone = false from rfl, if_neg (by decide), ad_one (by omega), nxS_rnO h1, hr]; rfl
        refine (loopO_inl e).trans ?_
        rw [ih (i + w) (k + 1) (by omega) w2 (by omega)]
        dsimp only
        rw [List.length_cons, show k + 1 + (rns s n (i + w)).1.length = k + ((rns s n (i + w)).1.length + 1) by omega]
    · rw [if_neg h1]
      refine loopO_inr ?_
      dsimp only
      unfold text_Count_b1
      rw [dnlt h1, if_neg (by decide)]; rfl
def runes (s : ByteArray) : List Nat × Bool := rns s (s.size + 1) 0
theorem Count_eq {s : ByteArray} (hs : s.size ≤ 100000) : text_Count s = some (if (runes s).2 = true then (((runes s).1.length : Int), true) else (0, false)) := by
  have := Count_go hs (s.size + 1) 0 0 (by omega) (by omega) (Nat.le_refl _)
  rw [Nat.zero_add] at this
  exact this
theorem Right_eq {s : ByteArray} (hs : s.size ≤ 100000) : text_Right s = some (runes s).2 := by
  unfold text_Right
  rw [Count_eq hs, bind_some']
  cases (runes s).2 <;> rfl
def ltrB (r : Nat) : Bool := decide ((97 ≤ r ∧ r ≤ 122) ∨ (65 ≤ r ∧ r ≤ 90) ∨ r = 95 ∨ 128 ≤ r)
def othB (r : Nat) : Bool := decide (r = 45 ∨ r = 46 ∨ (48 ≤ r ∧ r ≤ 57))
def nmR : Bool → List Nat → Bool
  | _, [] => true
  | first, r :: l => (ltrB r || (!first && othB r)) && nmR false l
def nmB (s : ByteArray) : Bool := (runes s).2 && decide (1 ≤ (runes s).1.length ∧ (runes s).1.length ≤ 32) && nmR true (runes s).1
theorem letter_eq (r : Nat) : text_letter (r : Int) = some (ltrB r) := by
  unfold text_letter ltrB
  simp only [bind_some']
  congr 1
  rw [Bool.eq_iff_iff]
  simp only [Bool.or_eq_true, Bool.and_eq_true, decide_eq_true_eq]
  omega
theorem Name_go {s : ByteArray} (hs : s.size ≤ 100000) : ∀ (n i : Nat), s.size - i < n → i ≤ s.size → (rns s n i).2 = true →
    loopO (fun st => text_Name_b1 s st) (i : Int) = some (nmR (decide (i = 0)) (rns s n i).1) := by
  intro n
  induction n with
  | zero => intro i h; omega
  | succ n ih =>
    intro i h hi hok
    rw [rns] at hok ⊢
    by_cases h1 : i < s.size
    · rw [if_pos h1] at hok ⊢
      cases hr : rnO s i with
      | none => rw [hr] at hok; cases hok
      | some p =>
        obtain ⟨r, w⟩ := p
        rw [hr] at hok
        dsimp only at hok ⊢
        obtain ⟨w1, w2, w3⟩ := rnO_w h1 hr
        have hb : text_Name_b1 s (i : Int) = if (ltrB r || (!decide (i = 0) && othB r)) = true then some (.inl ((i + w : Nat) : Int)) else some (.inr false) := by
          unfold text_Name_b1
          rw [dlt h1, if_pos rfl, rnS_rnO, hr, show (((some (r, w) : Option (Nat × Nat)).getD (65533, 1)).1 : Int) = (r : Int) from rfl, letter_eq]
          simp only [bind_some']
          rw [nxS_rnO h1, hr, show ((i + ((some (r, w) : Option (Nat × Nat)).getD (65533, 1)).2 : Nat) : Int) = ((i + w : Nat) : Int) from rfl]
          by_cases hl : ltrB r = true
          · rw [hl]; rfl
          · rw [Bool.eq_false_iff.2 hl]
            have : (decide ((i : Int) = 0) || (((!decide ((r : Int) = 45)) && !decide ((r : Int) = 46)) && (decide ((r : Int) < 48) || decide (57 < (r : Int))))) = !(!decide (i = 0) && othB r) := by
              unfold othB
              rw [Bool.eq_iff_iff]
              simp only [Bool.or_eq_true, Bool.and_eq_true, decide_eq_true_eq, Bool.not_eq_true', decide_eq_false_iff_not, Bool.and_eq_false_iff, Bool.not_eq_false']
              omega
            rw [this]
            cases (!decide (i = 0) && othB r) <;> rfl
        rw [nmR]
        cases hc : (ltrB r || (!decide (i = 0) && othB r)) with
        | true =>
          rw [hc, if_pos rfl] at hb
          refine (loopO_inl hb).trans ?_
          rw [ih (i + w) (by omega) w2 hok, decide_eq_false (by omega), Bool.true_and]
        | false =>
          rw [hc, if_neg (by decide)] at hb
          exact loopO_inr hb
    · rw [if_neg h1]
      refine loopO_inr ?_
      unfold text_Name_b1
      rw [dnlt h1, if_neg (by decide)]; rfl
theorem Name_eq {s : ByteArray} (hs : s.size ≤ 100000) : text_Name s = some (nmB s) := by
  unfold text_Name nmB
  rw [Count_eq hs, bind_some']
  cases hok : (runes s).2 with
  | false => rfl
  | true =>
    rw [if_pos rfl]
    simp only [Bool.not_true, Bool.false_or, bind_some', Bool.true_and]
    by_cases hl : 1 ≤ (runes s).1.length ∧ (runes s).1.length ≤ 32
    · rw [decide_eq_false (by omega), decide_eq_false (by omega), decide_eq_true hl, Bool.or_false, if_neg (by decide), Bool.true_and]
      exact Name_go hs (s.size + 1) 0 (by omega) (by omega) hok
    · rw [decide_eq_false hl, Bool.false_and, if_pos (by simp only [Bool.or_eq_true, decide_eq_true_eq]; omega)]
end Go.Proofs.Ytpbhdblkjabdlaa.Pl
