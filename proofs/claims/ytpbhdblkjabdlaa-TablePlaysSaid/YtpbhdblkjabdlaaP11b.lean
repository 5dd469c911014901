import Derived.Test.YtpbhdblkjabdlaaP11a
namespace Go.Proofs.Ytpbhdblkjabdlaa.Pl
set_option maxRecDepth 4000
theorem wr_nat {n : Nat} (h : n < 4294967296) : IntKind.i64.wrap (n : Int) = (n : Int) := IntWalk.i64_in _ (by omega)
def rnI (o : Option (Nat × Nat)) : Int × Int := match o with
  | some p => ((p.1 : Int), (p.2 : Int))
  | none => (0, 0)
theorem l4_step {s : ByteArray} {size least r i : Nat} (hi : i < size) (h4 : size ≤ 4) (hs : size ≤ s.size) (hr : r < 1000000000) :
    ref09_First_l4 s size least ((r : Int), (i : Int)) = if 128 ≤ byt s i ∧ byt s i < 192 then ref09_First_l4 s size least (((64 * r + (byt s i - 128) : Nat) : Int), ((i + 1 : Nat) : Int)) else some (0, 0) := by
  unfold ref09_First_l4
  have hb := byt_lt s i
  have hbo : ref09_First_b4 s size least (r : Int) (i : Int) = if 128 ≤ byt s i ∧ byt s i < 192 then some (.inl (((64 * r + (byt s i - 128) : Nat) : Int), ((i + 1 : Nat) : Int))) else some (.inr (0, 0)) := by
    unfold ref09_First_b4
    rw [decide_eq_true (by omega), if_pos rfl, ixS_byt (by omega), bind_some']
    by_cases h1 : byt s i < 128
    · rw [decide_eq_true (by omega), if_neg (by omega)]; rfl
    · rw [decide_eq_false (by omega), Bool.not_false, gd_true, bind_some', Bool.false_or, bind_some']
      by_cases h2 : byt s i < 192
      · rw [decide_eq_false (by omega), if_neg (by decide), bind_some', if_pos (by omega), bind_some', wr_nat (by omega), ml_in (by omega), ad_in (by omega), sb_in (by omega), ad_in (by omega)]
        congr 3
        omega
      · rw [decide_eq_true (by omega), if_pos rfl, if_neg (by omega)]; rfl
  by_cases h : 128 ≤ byt s i ∧ byt s i < 192
  · rw [if_pos h] at hbo ⊢
    exact loopO_inl hbo
  · rw [if_neg h] at hbo ⊢
    exact loopO_inr hbo
theorem l4_end {s : ByteArray} {size least r : Nat} :
    ref09_First_l4 s size least ((r : Int), (size : Int)) = some (if least ≤ r ∧ r ≤ 1114111 ∧ (r < 55296 ∨ 57343 < r) then ((r : Int), (size : Int)) else (0, 0)) := by
  unfold ref09_First_l4
  refine loopO_inr ?_
  unfold ref09_First_b4
  rw [decide_eq_false (by omega), if_neg (by decide), bind_some', bind_some']
  by_cases h : least ≤ r ∧ r ≤ 1114111 ∧ (r < 55296 ∨ 57343 < r)
  · rw [if_pos h, decide_eq_false (by omega), decide_eq_false (by omega)]
    have : (decide (55296 ≤ (r : Int)) && decide ((r : Int) ≤ 57343)) = false := by
      rw [Bool.and_eq_false_iff, decide_eq_false_iff_not, decide_eq_false_iff_not]; omega
    rw [this]; rfl
  · rw [if_neg h]
    have : (decide ((r : Int) < (least : Int)) || decide (1114111 < (r : Int)) || (decide (55296 ≤ (r : Int)) && decide ((r : Int) ≤ 57343))) = true := by
      simp only [Bool.or_eq_true, Bool.and_eq_true, decide_eq_true_eq]; omega
    rw [this]; rfl
theorem k3_no {s : ByteArray} {size least r : Nat} (h : size = 0 ∨ s.size < size) : ref09_First_k3 s size r least = some (0, 0) := by
  unfold ref09_First_k3
  have : (decide ((size : Int) = 0) || decide ((s.size : Int) < (size : Int))) = true := by
    simp only [Bool.or_eq_true, decide_eq_true_eq]; omega
  rw [this]; rfl
theorem k3_go {s : ByteArray} {size least r : Nat} (h : 0 < size ∧ size ≤ s.size) : ref09_First_k3 s size r least = ref09_First_l4 s size least ((r : Int), ((1 : Nat) : Int)) := by
  unfold ref09_First_k3
  have : (decide ((size : Int) = 0) || decide ((s.size : Int) < (size : Int))) = false := by
    rw [Bool.or_eq_false_iff, decide_eq_false_iff_not, decide_eq_false_iff_not]; omega
  rw [this]; rfl
theorem and_dec {a b : Prop} [Decidable a] [Decidable b] : (decide a && decide b) = decide (a ∧ b) := by simp
theorem First_eq {s : ByteArray} (h : 0 < s.size) : ref09_First s = some (rnI (rnO s 0)) := by
  unfold ref09_First
  have l0 := byt_lt s 0
  have l1 := byt_lt s 1
  have l2 := byt_lt s 2
  have l3 := byt_lt s 3
  have q2 : byt s (1 + 1) = byt s 2 := rfl
  have q3 : byt s (1 + 1 + 1) = byt s 3 := rfl
  rw [decide_eq_false (by omega), if_neg (by decide), show (0 : Int) = ((0 : Nat) : Int) from rfl, ixS_byt h, bind_some']
  unfold rnO ref09_First_k1 ref09_First_k2 cnt
  simp only [wr_nat (show byt s 0 < 4294967296 by omega), and_dec, bind_some', Nat.zero_add]
  by_cases h0 : byt s 0 < 128
  · rw [decide_eq_true (by omega), if_pos rfl, if_pos h0]; rfl
  rw [decide_eq_false (by omega), if_neg (by decide), if_neg h0]
  by_cases h1 : byt s 0 < 192
  · rw [decide_eq_false (by omega), decide_eq_false (by omega), decide_eq_false (by omega)]
    simp only [Bool.false_eq_true, if_false]
    rw [if_neg (by omega), if_neg (by omega), if_neg (by omega)]
    exact k3_no (size := 0) (r := 0) (least := 0) (.inl rfl)
  by_cases h2 : byt s 0 < 224
  · rw [decide_eq_true (by omega), decide_eq_false (by omega), decide_eq_false (by omega)]
    simp only [if_true, Bool.false_eq_true, if_false]
    rw [sb_in (x := (byt s 0 : Int)) (y := 192) (by omega), show ((byt s 0 : Int) - 192) = ((byt s 0 - 192 : Nat) : Int) by omega]
    by_cases hz : 2 ≤ s.size
    · rw [show ref09_First_k3 s 2 ((byt s 0 - 192 : Nat) : Int) 128 = _ from k3_go (size := 2) (least := 128) ⟨by omega, hz⟩, l4_step (by omega) (by omega) hz (by omega)]
      by_cases hc : 128 ≤ byt s 1 ∧ byt s 1 < 192
      · rw [if_pos hc, if_pos (by omega), l4_end, show 64 * (byt s 0 - 192) + (byt s 1 - 128) = (byt s 0 - 192) * 64 + (byt s 1 - 128) by omega]
        by_cases hr : 128 ≤ (byt s 0 - 192) * 64 + (byt s 1 - 128)
        · rw [if_pos (by omega), if_pos hr]; rfl
        · rw [if_neg (by omega), if_neg hr]; rfl
      · rw [if_neg hc, if_neg (by omega), if_neg (by omega), if_neg (by omega)]; rfl
    · rw [show ref09_First_k3 s 2 ((byt s 0 - 192 : Nat) : Int) 128 = _ from k3_no (size := 2) (least := 128) (.inr (by omega)), if_neg (by omega), if_neg (by omega), if_neg (by omega)]; rfl
  by_cases h3 : byt s 0 < 240
  · rw [decide_eq_false (by omega), decide_eq_true (by omega), decide_eq_false (by omega)]
    simp only [if_true, Bool.false_eq_true, if_false]
    rw [sb_in (x := (byt s 0 : Int)) (y := 224) (by omega), show ((byt s 0 : Int) - 224) = ((byt s 0 - 224 : Nat) : Int) by omega]
    by_cases hz : 3 ≤ s.size
    · rw [show ref09_First_k3 s 3 ((byt s 0 - 224 : Nat) : Int) 2048 = _ from k3_go (size := 3) (least := 2048) ⟨by omega, hz⟩, l4_step (by omega) (by omega) hz (by omega)]
      by_cases hc : 128 ≤ byt s 1 ∧ byt s 1 < 192
      · rw [if_pos hc, l4_step (by omega) (by omega) hz (by omega)]
        by_cases hd : 128 ≤ byt s 2 ∧ byt s 2 < 192
        · rw [if_pos hd, if_neg (by omega), if_pos (by omega), l4_end, show 64 * (64 * (byt s 0 - 224) + (byt s 1 - 128)) + (byt s 2 - 128) = (byt s 0 - 224) * 4096 + (byt s 1 - 128) * 64 + (byt s 2 - 128) by omega]
          have hlt : (byt s 0 - 224) * 4096 + (byt s 1 - 128) * 64 + (byt s 2 - 128) < 65536 := by omega
          generalize (byt s 0 - 224) * 4096 + (byt s 1 - 128) * 64 + (byt s 2 - 128) = c at hlt ⊢
          by_cases hr : 2048 ≤ c ∧ (c < 55296 ∨ 57343 < c)
          · rw [if_pos (by omega), if_pos hr]; rfl
          · rw [if_neg (by omega), if_neg hr]; rfl
        · rw [if_neg hd, if_neg (by omega), if_neg (by omega), if_neg (by omega)]; rfl
      · rw [if_neg hc, if_neg (by omega), if_neg (by omega), if_neg (by omega)]; rfl
    · rw [show ref09_First_k3 s 3 ((byt s 0 - 224 : Nat) : Int) 2048 = _ from k3_no (size := 3) (least := 2048) (.inr (by omega)), if_neg (by omega), if_neg (by omega), if_neg (by omega)]; rfl
  by_cases h4 : byt s 0 < 248
  · rw [decide_eq_false (by omega), decide_eq_false (by omega), decide_eq_true (by omega)]
    simp only [if_true, Bool.false_eq_true, if_false]
    rw [sb_in (x := (byt s 0 : Int)) (y := 240) (by omega), show ((byt s 0 : Int) - 240) = ((byt s 0 - 240 : Nat) : Int) by omega]
    by_cases hz : 4 ≤ s.size
    · rw [show ref09_First_k3 s 4 ((byt s 0 - 240 : Nat) : Int) 65536 = _ from k3_go (size := 4) (least := 65536) ⟨by omega, hz⟩, l4_step (by omega) (by omega) hz (by omega)]
      by_cases hc : 128 ≤ byt s 1 ∧ byt s 1 < 192
      · rw [if_pos hc, l4_step (by omega) (by omega) hz (by omega)]
        by_cases hd : 128 ≤ byt s 2 ∧ byt s 2 < 192
        · rw [if_pos hd, l4_step (by omega) (by omega) hz (by omega)]
          by_cases he : 128 ≤ byt s 3 ∧ byt s 3 < 192
          · rw [if_pos he, if_neg (by omega), if_neg (by omega), if_pos (by omega), l4_end, show 64 * (64 * (64 * (byt s 0 - 240) + (byt s 1 - 128)) + (byt s 2 - 128)) + (byt s 3 - 128) = (byt s 0 - 240) * 262144 + (byt s 1 - 128) * 4096 + (byt s 2 - 128) * 64 + (byt s 3 - 128) by omega]
            generalize (byt s 0 - 240) * 262144 + (byt s 1 - 128) * 4096 + (byt s 2 - 128) * 64 + (byt s 3 - 128) = c
            by_cases hr : 65536 ≤ c ∧ c ≤ 1114111
            · rw [if_pos (by omega), if_pos hr]; rfl
            · rw [if_neg (by omega), if_neg hr]; rfl
          · rw [if_neg he, if_neg (by omega), if_neg (by omega), if_neg (by omega)]; rfl
        · rw [if_neg hd, if_neg (by omega), if_neg (by omega), if_neg (by omega)]; rfl
      · rw [if_neg hc, if_neg (by omega), if_neg (by omega), if_neg (by omega)]; rfl
    · rw [show ref09_First_k3 s 4 ((byt s 0 - 240 : Nat) : Int) 65536 = _ from k3_no (size := 4) (least := 65536) (.inr (by omega)), if_neg (by omega), if_neg (by omega), if_neg (by omega)]; rfl
  · rw [decide_eq_false (by omega), decide_eq_false (by omega), decide_eq_false (by omega)]
    simp only [Bool.false_eq_true, if_false]
    rw [if_neg (by omega), if_neg (by omega), if_neg (by omega)]
    exact k3_no (size := 0) (r := 0) (least := 0) (.inl rfl)
theorem rnO_extract {s : ByteArray} {i : Nat} (h : i < s.size) : rnO (s.extract i s.size) 0 = rnO s i := by
  have hb : ∀ k, i + k < s.size → byt (s.extract i s.size) (0 + k) = byt s (i + k) := fun k hk => by rw [Nat.zero_add, byt_extract hk (Nat.le_refl _)]
  have hc : ∀ k, cnt (s.extract i s.size) 0 k ↔ cnt s i k := fun k => by
    unfold cnt
    rw [ByteArray.size_extract]
    constructor
    · rintro ⟨h1, h2, h3⟩
      rw [hb k (by omega)] at h2 h3
      exact ⟨by omega, h2, h3⟩
    · rintro ⟨h1, h2, h3⟩
      rw [← hb k (by omega)] at h2 h3
      exact ⟨by omega, h2, h3⟩
  have h0 : byt (s.extract i s.size) 0 = byt s i := hb 0 (by omega)
  unfold rnO
  rw [h0]
  by_cases h1 : cnt s i 1
  · have e1 := hb 1 h1.1
    rw [e1]
    by_cases h2 : cnt s i 2
    · have e2 := hb 2 h2.1
      rw [e2]
      by_cases h3 : cnt s i 3
      · have e3 := hb 3 h3.1
        rw [e3]
        simp only [hc]
      · simp only [hc, h3, and_false, if_false]
    · simp only [hc, h2, false_and, and_false, if_false]
  · simp only [hc, h1, false_and, and_false, if_false]
def rns (s : ByteArray) : Nat → Nat → List Nat × Bool
  | 0, _ => ([], true)
  | n + 1, i => if i < s.size then (match rnO s i with
    | some p => (p.1 :: (rns s n (i + p.2)).1, (rns s n (i + p.2)).2)
    | none => ([], false)) else ([], true)
theorem rnO_w {s : ByteArray} {i r w : Nat} (hi : i < s.size) (h : rnO s i = some (r, w)) : 1 ≤ w ∧ i + w ≤ s.size ∧ r ≤ 1114111 := by
  have := rnO_some hi h
  exact ⟨this.1, this.2.2.1, this.2.2.2.2.1⟩
theorem Count_go {s : ByteArray} (hs : s.size ≤ 100000) : ∀ (n i k : Nat), s.size - i < n → i ≤ s.size → k ≤ i →
    loopO (fun st => text_Count_b1 s st.1 st.2) ((k : Int), (i : Int)) = some (if (rns s n i).2 = true then (((k + (rns s n i).1.length : Nat) : Int), true) else (0, false)) := by
  intro n
  induction n with
  | zero => intro i k h; omega
  | succ n ih =>
    intro i k h hi hk
    rw [rns]
    by_cases h1 : i < s.size
    · rw [if_pos h1]
      cases hr : rnO s i with
      | none =>
        refine loopO_inr ?_
        dsimp only
        unfold text_Count_b1
        rw [dlt h1, if_pos rfl, bad_eq h1, hr, bind_some']; rfl
      | some p =>
        obtain ⟨r, w⟩ := p
        obtain ⟨w1, w2, w3⟩ := rnO_w h1 hr
        have e : text_Count_b1 s (k : Int) (i : Int) = some (.inl (((k + 1 : Nat) : Int), ((i + w : Nat) : Int))) := by
          unfold text_Count_b1
          rw [dlt h1, if_pos rfl, bad_eq h1, hr, bind_some', show (some (r, w)).isNone = false from rfl, if_neg (by decide), ad_one (by omega), nxS_rnO h1, hr]; rfl
        refine (loopO_inl e).trans ?_
        rw [ih (i + w) (k + 1) (by omega) w2 (by omega)]
        dsimp only
        rw [List.length_cons, show k + 1 + (rns s n (i + w)).1.length = k + ((rns s n (i + w)).1.length + 1) by omega]
    · rw [if_neg h1]
      refine loopO_inr ?_
      dsimp only
      unfold text_Count_b1
      rw [dnlt h1, if_neg (by decide)]; rfl
def runes (s : ByteArray) : List Nat × Bool := rns s (s.size + 1) 0
theorem Count_eq {s : ByteArray} (hs : s.size ≤ 100000) : text_Count s = some (if (runes s).2 = true then (((runes s).1.length : Int), true) else (0, false)) := by
  have := Count_go hs (s.size + 1) 0 0 (by omega) (by omega) (Nat.le_refl _)
  rw [Nat.zero_add] at this
  exact this
theorem Right_eq {s : ByteArray} (hs : s.size ≤ 100000) : text_Right s = some (runes s).2 := by
  unfold text_Right
  rw [Count_eq hs, bind_some']
  cases (runes s).2 <;> rfl
theorem Runes_go {s : ByteArray} (hs : s.size ≤ 100000) : ∀ (n i : Nat) (out ats : List Int), s.size - i < n → i ≤ s.size → out.length ≤ i → ats.length ≤ i →
    ∃ ats', loopO (fun st => ref09_Runes_b1 s st.1 st.2.1 st.2.2) (out, ats, (i : Int)) = some (if (rns s n i).2 = true then (out ++ (rns s n i).1.map (fun r : Nat => (r : Int)), ats', true) else ([], [], false)) := by
  intro n
  induction n with
  | zero => intro i _ _ h; omega
  | succ n ih =>
    intro i out ats h hi ho ha
    rw [rns]
    by_cases h1 : i < s.size
    · rw [if_pos h1]
      have hF : (cutS s (i : Int) (s.size : Int)).bind (fun x => ref09_First x) = some (rnI (rnO s i)) := by
        rw [cutS_from (by omega), bind_some', First_eq (by rw [ByteArray.size_extract]; omega), rnO_extract h1]
      cases hr : rnO s i with
      | none =>
        refine ⟨[], loopO_inr ?_⟩
        dsimp only
        unfold ref09_Runes_b1
        rw [dlt h1, if_pos rfl, cutS_from (by omega), bind_some', First_eq (by rw [ByteArray.size_extract]; omega), rnO_extract h1, hr, bind_some']
        unfold rnI
        dsimp only
        rw [decide_eq_true rfl, if_pos rfl]; rfl
      | some p =>
        obtain ⟨r, w⟩ := p
        obtain ⟨w1, w2, w3⟩ := rnO_w h1 hr
        have e : ref09_Runes_b1 s out ats (i : Int) = some (.inl (out ++ [(r : Int)], ats ++ [(i : Int)], ((i + w : Nat) : Int))) := by
          unfold ref09_Runes_b1
          rw [dlt h1, if_pos rfl, cutS_from (by omega), bind_some', First_eq (by rw [ByteArray.size_extract]; omega), rnO_extract h1, hr, bind_some']
          unfold rnI
          dsimp only
          rw [decide_eq_false (by omega), if_neg (by decide), app_le (by simp only [List.length_cons, List.length_nil]; omega), bind_some', app_le (by simp only [List.length_cons, List.length_nil]; omega), bind_some', ad_in (by omega)]
          congr 4
        obtain ⟨ats', h2⟩ := ih (i + w) (out ++ [(r : Int)]) (ats ++ [(i : Int)]) (by omega) w2 (by simp only [List.length_append, List.length_cons, List.length_nil]; omega) (by simp only [List.length_append, List.length_cons, List.length_nil]; omega)
        refine ⟨ats', (loopO_inl e).trans ?_⟩
        rw [h2]
        dsimp only
        rw [List.map_cons, List.append_assoc]; rfl
    · rw [if_neg h1]
      refine ⟨ats, loopO_inr ?_⟩
      dsimp only
      unfold ref09_Runes_b1
      rw [dnlt h1, if_neg (by decide), if_pos rfl, List.map_nil, List.append_nil]; rfl
theorem Runes_eq {s : ByteArray} (hs : s.size ≤ 100000) : ∃ ats, ref09_Runes s = some (if (runes s).2 = true then ((runes s).1.map (fun r : Nat => (r : Int)), ats, true) else ([], [], false)) := by
  obtain ⟨ats, h⟩ := Runes_go hs (s.size + 1) 0 [] [] (by omega) (by omega) (Nat.le_refl _) (Nat.le_refl _)
  rw [List.nil_append] at h
  exact ⟨ats, h⟩
def ltrB (r : Nat) : Bool := decide ((97 ≤ r ∧ r ≤ 122) ∨ (65 ≤ r ∧ r ≤ 90) ∨ r = 95 ∨ 128 ≤ r)
def othB (r : Nat) : Bool := decide (r = 45 ∨ r = 46 ∨ (48 ≤ r ∧ r ≤ 57))
def nmR : Bool → List Nat → Bool
  | _, [] => true
  | first, r :: l => (ltrB r || (!first && othB r)) && nmR false l
def nmB (s : ByteArray) : Bool := (runes s).2 && decide (1 ≤ (runes s).1.length ∧ (runes s).1.length ≤ 32) && nmR true (runes s).1
theorem letter_eq (r : Nat) : text_letter (r : Int) = some (ltrB r) := by
  unfold text_letter ltrB
  simp only [bind_some']
  congr 1
  rw [Bool.eq_iff_iff]
  simp only [Bool.or_eq_true, Bool.and_eq_true, decide_eq_true_eq]
  omega
theorem Name_go {s : ByteArray} (hs : s.size ≤ 100000) : ∀ (n i : Nat), s.size - i < n → i ≤ s.size → (rns s n i).2 = true →
    loopO (fun st => text_Name_b1 s st) (i : Int) = some (nmR (decide (i = 0)) (rns s n i).1) := by
  intro n
  induction n with
  | zero => intro i h; omega
  | succ n ih =>
    intro i h hi hok
    rw [rns] at hok ⊢
    by_cases h1 : i < s.size
    · rw [if_pos h1] at hok ⊢
      cases hr : rnO s i with
      | none => rw [hr] at hok; cases hok
      | some p =>
        obtain ⟨r, w⟩ := p
        rw [hr] at hok
        dsimp only at hok ⊢
        obtain ⟨w1, w2, w3⟩ := rnO_w h1 hr
        have hb : text_Name_b1 s (i : Int) = if (ltrB r || (!decide (i = 0) && othB r)) = true then some (.inl ((i + w : Nat) : Int)) else some (.inr false) := by
          unfold text_Name_b1
          rw [dlt h1, if_pos rfl, rnS_rnO, hr, show (((some (r, w) : Option (Nat × Nat)).getD (65533, 1)).1 : Int) = (r : Int) from rfl, letter_eq]
          simp only [bind_some']
          rw [nxS_rnO h1, hr, show ((i + ((some (r, w) : Option (Nat × Nat)).getD (65533, 1)).2 : Nat) : Int) = ((i + w : Nat) : Int) from rfl]
          by_cases hl : ltrB r = true
          · rw [hl]; rfl
          · rw [Bool.eq_false_iff.2 hl]
            have : (decide ((i : Int) = 0) || (((!decide ((r : Int) = 45)) && !decide ((r : Int) = 46)) && (decide ((r : Int) < 48) || decide (57 < (r : Int))))) = !(!decide (i = 0) && othB r) := by
              unfold othB
              rw [Bool.eq_iff_iff]
              simp only [Bool.or_eq_true, Bool.and_eq_true, decide_eq_true_eq, Bool.not_eq_true', decide_eq_false_iff_not, Bool.and_eq_false_iff, Bool.not_eq_false']
              omega
            rw [this]
            cases (!decide (i = 0) && othB r) <;> rfl
        rw [nmR]
        cases hc : (ltrB r || (!decide (i = 0) && othB r)) with
        | true =>
          rw [hc, if_pos rfl] at hb
          refine (loopO_inl hb).trans ?_
          rw [ih (i + w) (by omega) w2 hok, decide_eq_false (by omega), Bool.true_and]
        | false =>
          rw [hc, if_neg (by decide)] at hb
          exact loopO_inr hb
    · rw [if_neg h1]
      refine loopO_inr ?_
      unfold text_Name_b1
      rw [dnlt h1, if_neg (by decide)]; rfl
theorem Name_eq {s : ByteArray} (hs : s.size ≤ 100000) : text_Name s = some (nmB s) := by
  unfold text_Name nmB
  rw [Count_eq hs, bind_some']
  cases hok : (runes s).2 with
  | false => rfl
  | true =>
    rw [if_pos rfl]
    simp only [Bool.not_true, Bool.false_or, bind_some', Bool.true_and]
    by_cases hl : 1 ≤ (runes s).1.length ∧ (runes s).1.length ≤ 32
    · rw [decide_eq_false (by omega), decide_eq_false (by omega), decide_eq_true hl, Bool.or_false, if_neg (by decide), Bool.true_and]
      exact Name_go hs (s.size + 1) 0 (by omega) (by omega) hok
    · rw [decide_eq_false hl, Bool.false_and, if_pos (by simp only [Bool.or_eq_true, decide_eq_true_eq]; omega)]
theorem refName_eq {s : ByteArray} (hs : s.size ≤ 100000) : ref09_Name s = some (nmB s) := by
  unfold ref09_Name nmB
  obtain ⟨ats, h⟩ := Runes_eq hs
  rw [h, bind_some']
  cases hok : (runes s).2 with
  | false => rfl
  | true =>
    rw [if_pos rfl]
    simp only [Bool.not_true, Bool.false_or, bind_some', Bool.true_and, List.length_map]
    by_cases hl : 1 ≤ (runes s).1.length ∧ (runes s).1.length ≤ 32
    · rw [decide_eq_false (by omega), decide_eq_false (by omega), decide_eq_true hl, Bool.or_false, if_neg (by decide), Bool.true_and]
      unfold ref09_Name_l1
      have : ∀ (d : Nat) (l1 l2 : List Nat), l2.length = d → (runes s).1 = l1 ++ l2 → loopO (fun st => ref09_Name_b1 ((runes s).1.map (fun r : Nat => (r : Int)), ats, true) st) (l1.length : Int) = some (nmR (decide (l1.length = 0)) l2) := by
        intro d
        induction d with
        | zero =>
          intro l1 l2 hd he
          obtain rfl := List.length_eq_zero_iff.1 hd
          refine loopO_inr ?_
          unfold ref09_Name_b1
          dsimp only
          rw [List.length_map, he, List.append_nil, dnlt (Nat.lt_irrefl _), if_neg (by decide)]; rfl
        | succ d ih =>
          intro l1 l2 hd he
          cases l2 with
          | nil => simp at hd
          | cons r l2 =>
            have hlen : (runes s).1.length = l1.length + (l2.length + 1) := by rw [he]; simp
            have hx : ix ((runes s).1.map (fun r : Nat => (r : Int))) (l1.length : Int) = some (r : Int) := by
              rw [ix_nat, List.getElem?_map, he, List.getElem?_append_right (Nat.le_refl _), Nat.sub_self]; rfl
            have hb : ref09_Name_b1 ((runes s).1.map (fun r : Nat => (r : Int)), ats, true) (l1.length : Int) = if (ltrB r || (!decide (l1.length = 0) && othB r)) = true then some (.inl ((l1.length + 1 : Nat) : Int)) else some (.inr false) := by
              unfold ref09_Name_b1
              dsimp only
              rw [List.length_map, dlt (by omega), if_pos rfl, hx]
              simp only [bind_some']
              have : ((!((decide (96 < (r : Int)) && decide ((r : Int) < 123) || decide (64 < (r : Int)) && decide ((r : Int) < 91) || decide ((r : Int) = 95)) || decide (127 < (r : Int)))) && (decide ((l1.length : Int) = 0) || !((decide ((r : Int) = 45) || decide ((r : Int) = 46)) || (decide (47 < (r : Int)) && decide ((r : Int) < 58))))) = !(ltrB r || (!decide (l1.length = 0) && othB r)) := by
                unfold othB ltrB
                rw [Bool.eq_iff_iff]
                simp only [Bool.or_eq_true, Bool.and_eq_true, decide_eq_true_eq, Bool.not_eq_true', decide_eq_false_iff_not, Bool.and_eq_false_iff, Bool.not_eq_false', Bool.or_eq_false_iff]
                omega
              rw [this, ad_one (by omega)]
              cases (ltrB r || (!decide (l1.length = 0) && othB r)) <;> rfl
            rw [nmR]
            cases hc : (ltrB r || (!decide (l1.length = 0) && othB r)) with
            | true =>
              rw [hc, if_pos rfl] at hb
              refine (loopO_inl hb).trans ?_
              have := ih (l1 ++ [r]) l2 (by simpa using hd) (by rw [he, List.append_assoc]; rfl)
              rw [List.length_append, List.length_cons, List.length_nil, decide_eq_false (by omega)] at this
              rw [this, Bool.true_and]
            | false =>
              rw [hc, if_neg (by decide)] at hb
              exact loopO_inr hb
      exact this (runes s).1.length [] (runes s).1 rfl rfl
    · rw [decide_eq_false hl, Bool.false_and, if_pos (by simp only [Bool.or_eq_true, decide_eq_true_eq]; omega)]
end Go.Proofs.Ytpbhdblkjabdlaa.Pl
