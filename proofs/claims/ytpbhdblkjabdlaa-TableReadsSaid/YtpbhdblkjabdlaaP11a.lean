import Derived.Test.YtpbhdblkjabdlaaSall
import Derived.Test.YtpbhdblkjabdlaaLib
import Derived.Laws.Strings
namespace Go.Proofs.Ytpbhdblkjabdlaa.Pl
set_option maxRecDepth 4000
def byt (s : ByteArray) (i : Nat) : Nat := (s.get! i).toNat
theorem byt_lt (s : ByteArray) (i : Nat) : byt s i < 256 := UInt8.toNat_lt _
theorem get!_eq {s : ByteArray} {i : Nat} (h : i < s.size) : s.get! i = s[i] := by
  cases s with
  | mk d => exact getElem!_pos d i h
theorem cutS_from {s : ByteArray} {i : Nat} (h : i ≤ s.size) : cutS s (i : Int) (s.size : Int) = some (s.extract i s.size) := by
  unfold cutS
  rw [if_pos (by omega)]; simp
theorem cutS_to {s : ByteArray} {i : Nat} (h : i ≤ s.size) : cutS s 0 (i : Int) = some (s.extract 0 i) := by
  unfold cutS
  rw [if_pos (by omega)]; simp
theorem byt_extract {s : ByteArray} {i j k : Nat} (h : i + k < j) (hj : j ≤ s.size) : byt (s.extract i j) k = byt s (i + k) := by
  unfold byt
  rw [get!_eq (s := s) (by omega), get!_eq (by rw [ByteArray.size_extract]; omega), ByteArray.getElem_extract]
theorem str_ext {s t : ByteArray} (h : s.size = t.size) (hb : ∀ i, i < s.size → byt s i = byt t i) : s = t := by
  apply ByteArray.ext_getElem h
  intro i h1 h2
  have := hb i h1
  unfold byt at this
  rw [get!_eq h1, get!_eq h2] at this
  exact UInt8.toNat_inj.1 this
theorem eqS_eq (s t : ByteArray) : eqS s t = decide (s = t) := by
  unfold eqS
  rw [ByteArray.toList_eq, ByteArray.toList_eq]
  by_cases h : s = t
  · subst h; simp
  · rw [decide_eq_false h]
    refine beq_eq_false_iff_ne.2 fun e => h ?_
    cases s; cases t
    simpa [← Array.toList_inj] using e
def cnt (s : ByteArray) (i k : Nat) : Prop := i + k < s.size ∧ 128 ≤ byt s (i + k) ∧ byt s (i + k) < 192
instance (s : ByteArray) (i k : Nat) : Decidable (cnt s i k) := by unfold cnt; infer_instance
def rnO (s : ByteArray) (i : Nat) : Option (Nat × Nat) :=
  if byt s i < 128 then some (byt s i, 1)
  else if (192 ≤ byt s i ∧ byt s i < 224) ∧ cnt s i 1 then
    if 128 ≤ (byt s i - 192) * 64 + (byt s (i + 1) - 128) then some ((byt s i - 192) * 64 + (byt s (i + 1) - 128), 2) else none
  else if (224 ≤ byt s i ∧ byt s i < 240) ∧ cnt s i 1 ∧ cnt s i 2 then
    if 2048 ≤ (byt s i - 224) * 4096 + (byt s (i + 1) - 128) * 64 + (byt s (i + 2) - 128) ∧ ((byt s i - 224) * 4096 + (byt s (i + 1) - 128) * 64 + (byt s (i + 2) - 128) < 55296 ∨ 57343 < (byt s i - 224) * 4096 + (byt s (i + 1) - 128) * 64 + (byt s (i + 2) - 128)) then
      some ((byt s i - 224) * 4096 + (byt s (i + 1) - 128) * 64 + (byt s (i + 2) - 128), 3) else none
  else if (240 ≤ byt s i ∧ byt s i < 248) ∧ cnt s i 1 ∧ cnt s i 2 ∧ cnt s i 3 then
    if 65536 ≤ (byt s i - 240) * 262144 + (byt s (i + 1) - 128) * 4096 + (byt s (i + 2) - 128) * 64 + (byt s (i + 3) - 128) ∧ (byt s i - 240) * 262144 + (byt s (i + 1) - 128) * 4096 + (byt s (i + 2) - 128) * 64 + (byt s (i + 3) - 128) ≤ 1114111 then
      some ((byt s i - 240) * 262144 + (byt s (i + 1) - 128) * 4096 + (byt s (i + 2) - 128) * 64 + (byt s (i + 3) - 128), 4) else none
  else none
theorem cont_iff (s : ByteArray) (i k : Nat) : (decide (i + k < s.size) && ((s.get! (i + k)).toNat / 64 == 2)) = decide (cnt s i k) := by
  have h : (s.get! (i + k)).toNat = byt s (i + k) := rfl
  rw [h, Bool.eq_iff_iff]
  simp only [Bool.and_eq_true, decide_eq_true_eq, beq_iff_eq]
  unfold cnt
  have := byt_lt s (i + k)
  omega
theorem decode_eq (s : ByteArray) (i : Nat) : Utf8.decode s i = (rnO s i).getD (65533, 1) := by
  unfold Utf8.decode rnO
  simp only [cont_iff, Nat.add_zero]
  have e0 : (s.get! i).toNat = byt s i := rfl
  have e1 : (s.get! (i + 1)).toNat = byt s (i + 1) := rfl
  have e2 : (s.get! (i + 2)).toNat = byt s (i + 2) := rfl
  have e3 : (s.get! (i + 3)).toNat = byt s (i + 3) := rfl
  simp only [e0, e1, e2, e3]
  have l0 := byt_lt s i
  have l1 := byt_lt s (i + 1)
  have l2 := byt_lt s (i + 2)
  have l3 := byt_lt s (i + 3)
  by_cases h0 : byt s i < 128
  · rw [if_pos h0, if_pos h0]; rfl
  rw [if_neg h0, if_neg h0]
  by_cases h1 : (192 ≤ byt s i ∧ byt s i < 224) ∧ cnt s i 1
  · have c1 := h1.2
    unfold cnt at c1
    rw [if_pos h1, if_pos (by simp only [Bool.and_eq_true, beq_iff_eq, decide_eq_true_eq]; exact ⟨by omega, h1.2⟩)]
    have e : byt s i % 32 * 64 + byt s (i + 1) % 64 = (byt s i - 192) * 64 + (byt s (i + 1) - 128) := by omega
    rw [e]
    by_cases h2 : 128 ≤ (byt s i - 192) * 64 + (byt s (i + 1) - 128)
    · rw [if_pos h2, if_pos h2]; rfl
    · rw [if_neg h2, if_neg h2]; rfl
  rw [if_neg h1, if_neg (by simp only [Bool.and_eq_true, beq_iff_eq, decide_eq_true_eq]; intro h; exact h1 ⟨by omega, h.2⟩)]
  by_cases h2 : (224 ≤ byt s i ∧ byt s i < 240) ∧ cnt s i 1 ∧ cnt s i 2
  · have c1 := h2.2.1
    have c2 := h2.2.2
    unfold cnt at c1 c2
    rw [if_pos h2, if_pos (by simp only [Bool.and_eq_true, beq_iff_eq, decide_eq_true_eq]; exact ⟨⟨by omega, h2.2.1⟩, h2.2.2⟩)]
    have e : byt s i % 16 * 4096 + byt s (i + 1) % 64 * 64 + byt s (i + 2) % 64 = (byt s i - 224) * 4096 + (byt s (i + 1) - 128) * 64 + (byt s (i + 2) - 128) := by omega
    rw [e]
    have hlt : (byt s i - 224) * 4096 + (byt s (i + 1) - 128) * 64 + (byt s (i + 2) - 128) < 65536 := by omega
    generalize (byt s i - 224) * 4096 + (byt s (i + 1) - 128) * 64 + (byt s (i + 2) - 128) = c at hlt ⊢
    have hv : (decide (c ≥ 2048) && Utf8.valid (c : Int)) = decide (2048 ≤ c ∧ (c < 55296 ∨ 57343 < c) ∧ c ≤ 1114111) := by
      rw [Bool.eq_iff_iff]
      simp only [Utf8.valid, Bool.and_eq_true, Bool.or_eq_true, decide_eq_true_eq]
      omega
    by_cases h3 : 2048 ≤ c ∧ (c < 55296 ∨ 57343 < c)
    · rw [if_pos h3, if_pos (by rw [hv, decide_eq_true_eq]; omega)]; rfl
    · rw [if_neg h3, if_neg (by rw [hv, decide_eq_true_eq]; omega)]; rfl
  rw [if_neg h2, if_neg (by simp only [Bool.and_eq_true, beq_iff_eq, decide_eq_true_eq]; intro h; exact h2 ⟨by omega, h.1.2, h.2⟩)]
  by_cases h3 : (240 ≤ byt s i ∧ byt s i < 248) ∧ cnt s i 1 ∧ cnt s i 2 ∧ cnt s i 3
  · have c1 := h3.2.1
    have c2 := h3.2.2.1
    have c3 := h3.2.2.2
    unfold cnt at c1 c2 c3
    rw [if_pos h3, if_pos (by simp only [Bool.and_eq_true, beq_iff_eq, decide_eq_true_eq]; exact ⟨⟨⟨by omega, h3.2.1⟩, h3.2.2.1⟩, h3.2.2.2⟩)]
    have e : byt s i % 8 * 262144 + byt s (i + 1) % 64 * 4096 + byt s (i + 2) % 64 * 64 + byt s (i + 3) % 64 = (byt s i - 240) * 262144 + (byt s (i + 1) - 128) * 4096 + (byt s (i + 2) - 128) * 64 + (byt s (i + 3) - 128) := by omega
    rw [e]
    generalize (byt s i - 240) * 262144 + (byt s (i + 1) - 128) * 4096 + (byt s (i + 2) - 128) * 64 + (byt s (i + 3) - 128) = c
    have hv : (decide (c ≥ 65536) && Utf8.valid (c : Int)) = decide (65536 ≤ c ∧ c ≤ 1114111) := by
      rw [Bool.eq_iff_iff]
      simp only [Utf8.valid, Bool.and_eq_true, Bool.or_eq_true, decide_eq_true_eq]
      omega
    by_cases h4 : 65536 ≤ c ∧ c ≤ 1114111
    · rw [if_pos h4, if_pos (by rw [hv, decide_eq_true_eq]; omega)]; rfl
    · rw [if_neg h4, if_neg (by rw [hv, decide_eq_true_eq]; omega)]; rfl
  rw [if_neg h3, if_neg (by simp only [Bool.and_eq_true, beq_iff_eq, decide_eq_true_eq]; intro h; exact h3 ⟨by omega, h.1.1.2, h.1.2, h.2⟩)]; rfl
theorem rnO_some {s : ByteArray} {i r w : Nat} (hi : i < s.size) (h : rnO s i = some (r, w)) : 1 ≤ w ∧ w ≤ 4 ∧ i + w ≤ s.size ∧ (r, w) ≠ (65533, 1) ∧ r ≤ 1114111 ∧ (r = 65533 → byt s i = 239 ∧ byt s (i + 1) = 191 ∧ byt s (i + 2) = 189 ∧ i + 3 ≤ s.size) := by
  unfold rnO at h
  have l0 := byt_lt s i
  have l1 := byt_lt s (i + 1)
  have l2 := byt_lt s (i + 2)
  have l3 := byt_lt s (i + 3)
  unfold cnt at h
  split at h
  · injection h with h; injection h with h1 h2
    refine ⟨by omega, by omega, by omega, fun e => ?_, by omega, fun e => by omega⟩
    injection e with e1 e2; omega
  split at h
  · split at h
    · injection h with h; injection h with h1 h2
      refine ⟨by omega, by omega, by omega, fun e => ?_, by omega, fun e => by omega⟩
      injection e with e1 e2; omega
    · cases h
  split at h
  · split at h
    · injection h with h; injection h with h1 h2
      refine ⟨by omega, by omega, by omega, fun e => ?_, by omega, fun e => by omega⟩
      injection e with e1 e2; omega
    · cases h
  split at h
  · split at h
    · injection h with h; injection h with h1 h2
      refine ⟨by omega, by omega, by omega, fun e => ?_, by omega, fun e => by omega⟩
      injection e with e1 e2; omega
    · cases h
  · cases h
theorem rnO_err {s : ByteArray} {i : Nat} (h : byt s i = 239 ∧ byt s (i + 1) = 191 ∧ byt s (i + 2) = 189 ∧ i + 3 ≤ s.size) : rnO s i = some (65533, 3) := by
  unfold rnO
  obtain ⟨h0, h1, h2, h3⟩ := h
  unfold cnt
  rw [if_neg (by omega), if_neg (by omega), if_pos (by omega), if_pos (by omega), h0, h1, h2]
theorem rnS_rnO (s : ByteArray) (i : Nat) : rnS s (i : Int) = (((rnO s i).getD (65533, 1)).1 : Nat) := by unfold rnS; rw [Int.toNat_natCast, decode_eq]
theorem nxS_rnO {s : ByteArray} {i : Nat} (h : i < s.size) : nxS s (i : Int) = ((i + ((rnO s i).getD (65533, 1)).2 : Nat) : Int) := by
  unfold nxS; rw [if_pos (by omega), Int.toNat_natCast, decode_eq]; omega
theorem HasPrefix_eq (s p : ByteArray) : strings_HasPrefix s p = some (decide (p.size ≤ s.size ∧ ∀ i, i < p.size → byt s i = byt p i)) := by
  unfold strings_HasPrefix internal_stringslite_HasPrefix
  by_cases h : p.size ≤ s.size
  · rw [decide_eq_true (by omega), gd_true, cutS_to h]
    simp only [bind_some']
    rw [Bool.true_and, eqS_eq]
    congr 1
    rw [decide_eq_decide]
    constructor
    · intro e
      refine ⟨h, fun i hi => ?_⟩
      have := byt_extract (s := s) (i := 0) (j := p.size) (k := i) (by omega) h
      rw [e, Nat.zero_add] at this
      exact this.symm
    · rintro ⟨_, hb⟩
      refine str_ext (by rw [ByteArray.size_extract]; omega) fun i hi => ?_
      rw [ByteArray.size_extract] at hi
      rw [byt_extract (by omega) h, Nat.zero_add]
      exact hb i (by omega)
  · rw [decide_eq_false (by omega), gd_false]
    simp only [bind_some']
    rw [Bool.false_and, decide_eq_false (fun h' => h h'.1)]
theorem bad_eq {s : ByteArray} {i : Nat} (h : i < s.size) : text_bad s (i : Int) (rnS s (i : Int)) = some (rnO s i).isNone := by
  unfold text_bad
  rw [rnS_rnO]
  have hp : strings_HasPrefix (s.extract i s.size) (⟨#[239, 191, 189]⟩ : ByteArray) = some (decide (byt s i = 239 ∧ byt s (i + 1) = 191 ∧ byt s (i + 2) = 189 ∧ i + 3 ≤ s.size)) := by
    rw [HasPrefix_eq]
    congr 1
    rw [decide_eq_decide]
    have hsz : (⟨#[239, 191, 189]⟩ : ByteArray).size = 3 := rfl
    rw [hsz, ByteArray.size_extract]
    constructor
    · rintro ⟨h1, h2⟩
      have a0 := h2 0 (by omega)
      have a1 := h2 1 (by omega)
      have a2 := h2 2 (by omega)
      rw [byt_extract (by omega) (Nat.le_refl _)] at a0 a1 a2
      exact ⟨a0, a1, a2, by omega⟩
    · rintro ⟨a0, a1, a2, a3⟩
      refine ⟨by omega, fun k hk => ?_⟩
      rw [byt_extract (by omega) (Nat.le_refl _)]
      match k, hk with
      | 0, _ => exact a0
      | 1, _ => exact a1
      | 2, _ => exact a2
  cases hr : rnO s i with
  | none =>
    rw [show (((none : Option (Nat × Nat)).getD (65533, 1)).1 : Int) = 65533 from rfl, decide_eq_true rfl, gd_true, cutS_from (by omega), bind_some', gd_true, hp, bind_some', decide_eq_false (fun h' => by rw [rnO_err h'] at hr; cases hr)]; rfl
  | some p =>
    obtain ⟨r, w⟩ := p
    obtain ⟨h1, h2, h3, h4, h5, h6⟩ := rnO_some h hr
    by_cases he : r = 65533
    · subst he
      rw [show (((some (65533, w) : Option (Nat × Nat)).getD (65533, 1)).1 : Int) = 65533 from rfl, decide_eq_true rfl, gd_true, cutS_from (by omega), bind_some', gd_true, hp, bind_some', decide_eq_true (h6 rfl)]; rfl
    · rw [show (((some (r, w) : Option (Nat × Nat)).getD (65533, 1)).1 : Int) = (r : Int) from rfl, decide_eq_false (by omega)]; rfl
end Go.Proofs.Ytpbhdblkjabdlaa.Pl
