import Derived.Test.YtpbhdblkjabdlaaP11e
namespace Go.Proofs.Ytpbhdblkjabdlaa.Pl
set_option maxRecDepth 4000
section
variable {α κ : Type} [DecidableEq κ] {key : α → κ} {bad : α → Int}
end
section
variable {α : Type} [DecidableEq α]
end
theorem Ofs_eq {l : List Att} (hl : l.length ≤ 100000) : law11_Ofs l = some l := by
  unfold law11_Ofs law11_Ofs_l1
  have := loopO_nat (body := fun s => law11_Ofs_b1 l s.1 s.2) (fun k => (l.take k, (k : Int))) l.length (l.take l.length) (fun k hk => by
    dsimp only
    unfold law11_Ofs_b1
    rw [dlt hk, if_pos rfl, ix_getD dA hk, bind_some', bind_some', app_le (by simp only [List.length_cons, List.length_nil, List.length_take]; omega), bind_some', ad_one (by omega), snoc_take dA hk]) (by
    dsimp only
    unfold law11_Ofs_b1
    rw [dnlt (Nat.lt_irrefl _), if_neg (by decide)]; rfl)
  rw [List.take_length] at this
  exact this
theorem Table_eq (t : List ByteArray × List Val) : ∃ K V, law11_Table t = some ((K, V), (K, V)) ∧ K.length ≤ 20 ∧ V.length ≤ 20 ∧ (∀ k ∈ K, Sh k) ∧ (∀ v ∈ V, ShV v) := by
  obtain ⟨K0, V0⟩ := t
  have h2 : ∀ K : List ByteArray, ∃ V, law11_Table_l2 (K0, V0) K K ([], [], 0) = some ((K, V), (K, V)) ∧ V.length ≤ 20 ∧ (∀ v ∈ V, ShV v) := fun K => by
    unfold law11_Table_l2
    have := loopO_rule (body := fun s => law11_Table_b2 (K0, V0) K K s.1 s.2.1 s.2.2) (fun s => s.1 = s.2.1 ∧ 0 ≤ s.2.2 ∧ s.2.2 ≤ 20 ∧ (s.1.length : Int) = s.2.2 ∧ ∀ v ∈ s.1, ShV v) (fun s => (20 - s.2.2).toNat) (fun r => ∃ V, r = ((K, V), (K, V)) ∧ V.length ≤ 20 ∧ ∀ v ∈ V, ShV v) (fun s ⟨h1, h2, h3, h4, h5⟩ => by
      obtain ⟨V, V', i⟩ := s
      dsimp only at h1 h2 h3 h4 h5 ⊢
      subst h1
      unfold law11_Table_b2
      by_cases h : i < (V0.length : Int) ∧ i < 20
      · left
        obtain ⟨r, hr, hz⟩ := cut10_eq (V0.getD i.toNat dV)
        rw [show (decide (i < (V0.length : Int)) && decide (i < 20)) = true by simp [h], bind_some', if_pos rfl, ix_int dV ⟨h2, h.1⟩, bind_some', hr, bind_some', app_le (by simp only [List.length_cons, List.length_nil]; omega), bind_some', bind_some', ad_in (by omega)]
        refine ⟨_, rfl, ⟨rfl, by dsimp only; omega, by dsimp only; omega, by simp only [List.length_append, List.length_cons, List.length_nil]; omega, fun v hv => ?_⟩, by dsimp only; omega⟩
        rcases List.mem_append.1 hv with h' | h'
        · exact h5 v h'
        · rw [List.mem_singleton] at h'
          subst h'
          unfold ShV Sh; omega
      · right
        rw [show (decide (i < (V0.length : Int)) && decide (i < 20)) = false by rw [Bool.and_eq_false_iff, decide_eq_false_iff_not, decide_eq_false_iff_not]; omega, bind_some', if_neg (by decide)]
        exact ⟨_, rfl, V, rfl, by omega, h5⟩) (s := (([] : List Val), ([] : List Val), (0 : Int))) ⟨rfl, by decide, by decide, rfl, by simp⟩
    obtain ⟨r, hr, V, rfl, hV⟩ := this
    exact ⟨V, hr, hV⟩
  unfold law11_Table law11_Table_l1
  have := loopO_rule (body := fun s => law11_Table_b1 (K0, V0) s.1 s.2.1 s.2.2) (fun s => s.1 = s.2.1 ∧ 0 ≤ s.2.2 ∧ s.2.2 ≤ 20 ∧ (s.1.length : Int) = s.2.2 ∧ ∀ v ∈ s.1, Sh v) (fun s => (20 - s.2.2).toNat) (fun r => ∃ K V, r = ((K, V), (K, V)) ∧ K.length ≤ 20 ∧ V.length ≤ 20 ∧ (∀ k ∈ K, Sh k) ∧ ∀ v ∈ V, ShV v) (fun s ⟨h1, h3, h4, h5, h6⟩ => by
    obtain ⟨K, K', i⟩ := s
    dsimp only at h1 h3 h4 h5 h6 ⊢
    subst h1
    unfold law11_Table_b1
    by_cases h : i < (K0.length : Int) ∧ i < 20
    · left
      rw [show (decide (i < (K0.length : Int)) && decide (i < 20)) = true by simp [h], bind_some', if_pos rfl, ix_int ByteArray.empty ⟨h3, h.1⟩, bind_some', bind_some', cutS_mn, bind_some', app_le (by simp only [List.length_cons, List.length_nil]; omega), bind_some', bind_some', ad_in (by omega)]
      refine ⟨_, rfl, ⟨rfl, by dsimp only; omega, by dsimp only; omega, by simp only [List.length_append, List.length_cons, List.length_nil]; omega, fun v hv => ?_⟩, by dsimp only; omega⟩
      rcases List.mem_append.1 hv with h' | h'
      · exact h6 v h'
      · rw [List.mem_singleton] at h'
        subst h'
        unfold Sh; rw [ByteArray.size_extract]; omega
    · right
      rw [show (decide (i < (K0.length : Int)) && decide (i < 20)) = false by rw [Bool.and_eq_false_iff, decide_eq_false_iff_not, decide_eq_false_iff_not]; omega, bind_some', if_neg (by decide)]
      obtain ⟨V, hV, hV2, hV3⟩ := h2 K
      rw [hV]
      exact ⟨_, rfl, K, V, rfl, by omega, hV2, h6, hV3⟩) (s := (([] : List ByteArray), ([] : List ByteArray), (0 : Int))) ⟨rfl, by decide, by decide, rfl, by simp⟩
  obtain ⟨r, hr, K, V, rfl, h⟩ := this
  exact ⟨K, V, hr, h⟩
abbrev PS := (List ByteArray) × (List Val) × (List ByteArray) × (List Val) × Int
structure PI (w : Int) (s : PS) : Prop where
  i0 : 0 ≤ s.2.2.2.2 ∧ s.2.2.2.2 ≤ 10
  ek : s.2.2.1 = s.1
  ev : s.2.2.2.1 = s.2.1
  lk : (s.1.length : Int) ≤ 20 + 10 * s.2.2.2.2
  lv : (s.2.1.length : Int) ≤ 20 + 10 * s.2.2.2.2
  sk : ∀ k ∈ s.1, Sh k
  sv : ∀ v ∈ s.2.1, ShV v
  tc : tchk s.1 s.2.1 = w
end Go.Proofs.Ytpbhdblkjabdlaa.Pl
