/-
  The heap of chapter 05, plainly: up and down. No program in sight.
-/
import Derived.Test.YtoaplhnmmnejnaaSd
import Derived.Test.YtoaplhnmmnejnaaLib
namespace Go.Proofs.Ytoaplhnmmnejnaa

abbrev Et := Int × Int × Int
def Lt3 (a b : Et) : Prop := a.1 < b.1 ∨ a.1 = b.1 ∧ (a.2.1 < b.2.1 ∨ a.2.1 = b.2.1 ∧ a.2.2 < b.2.2)
instance (a b : Et) : Decidable (Lt3 a b) := by unfold Lt3; infer_instance
theorem Lt3.irr (a : Et) : ¬ Lt3 a a := by unfold Lt3; omega
theorem Lt3.nlt {a b c : Et} (h : ¬ Lt3 b a) (h' : ¬ Lt3 c b) : ¬ Lt3 c a := by unfold Lt3 at *; omega
theorem Lt3.asym {a b : Et} (h : Lt3 a b) : ¬ Lt3 b a := by unfold Lt3 at *; omega
theorem Lt3.eq_ {a b : Et} (h : ¬ Lt3 a b) (h' : ¬ Lt3 b a) : a = b := by
  obtain ⟨a1, a2, a3⟩ := a
  obtain ⟨b1, b2, b3⟩ := b
  simp only [Lt3] at h h'
  have : a1 = b1 ∧ a2 = b2 ∧ a3 = b3 := by omega
  rw [this.1, this.2.1, this.2.2]
theorem heap_Less_eq (a b : Et) : heap_Less a b = some (decide (Lt3 a b)) := by
  unfold heap_Less Lt3
  by_cases h1 : a.1 = b.1
  · by_cases h2 : a.2.1 = b.2.1
    · simp [h1, h2]
    · simp [h1, h2]
  · simp [h1]
theorem ref05_Less_eq (a b : Et) : ref05_Less a b = some (decide (Lt3 a b)) := by
  unfold ref05_Less Lt3
  by_cases h1 : a.1 = b.1
  · by_cases h2 : a.2.1 = b.2.1
    · simp [h1, h2]
    · simp [h1, h2]
  · simp [h1]

def at3 (l : List Et) (i : Nat) : Et := l.getD i (0, 0, 0)
def swp (l : List Et) (i k : Nat) : List Et := (l.set i (at3 l k)).set k (at3 l i)
theorem swap_eq {l : List Et} {i k : Nat} (hi : i < l.length) (hk : k < l.length) : heap_list_swap l i k = some (swp l i k) := by
  unfold heap_list_swap
  rw [ix_getD (0, 0, 0) hk, ix_getD (0, 0, 0) hi]
  simp only [bind_some', put_nat hi]
  rw [put_nat (by simpa using hk)]
  rfl
theorem swp_len (l : List Et) (i k : Nat) : (swp l i k).length = l.length := by simp [swp]
theorem swp_at {l : List Et} {i k j : Nat} (hi : i < l.length) (hk : k < l.length) : at3 (swp l i k) j = if j = k then at3 l i else if j = i then at3 l k else at3 l j := by
  unfold swp at3
  rw [getD_set (by simpa using hk), getD_set hi]
  by_cases h1 : k = j
  · simp [h1]
  · have h1' : ¬ j = k := fun e => h1 e.symm
    by_cases h2 : i = j
    · simp [h1, h1', h2]
    · have h2' : ¬ j = i := fun e => h2 e.symm
      simp [h1, h1', h2, h2']
theorem swp_count {l : List Et} {i k : Nat} (hi : i < l.length) (hk : k < l.length) (e : Et) : (swp l i k).count e = l.count e := by
  unfold swp
  have hk' : k < (l.set i (at3 l k)).length := by simpa using hk
  rw [List.count_set hk', List.count_set hi]
  have e1 : l[i] = at3 l i := by simp [at3, List.getD_eq_getElem?_getD, hi]
  have e2 : (l.set i (at3 l k))[k] = at3 l k := by
    rw [List.getElem_set]
    split
    · rfl
    · simp [at3, List.getD_eq_getElem?_getD, hk]
  rw [e1, e2]
  have hc : (if (at3 l i == e) = true then 1 else 0) ≤ l.count e := by
    split
    · rename_i h
      have h : at3 l i = e := by simpa using h
      have hm : e ∈ l := by rw [← h]; exact getD_mem hi
      exact List.count_pos_iff.2 hm
    · exact Nat.zero_le _
  omega

/-! ### up -/
/-- Place j does not come ahead of the one over it. -/
def Edge (l : List Et) (j : Nat) : Prop := ¬ Lt3 (at3 l j) (at3 l ((j - 1) / 2))
def Hp (l : List Et) : Prop := ∀ j, 0 < j → j < l.length → Edge l j
/-- A heap, but that place i may come ahead of the one over it. -/
def Up (l : List Et) (i : Nat) : Prop := (∀ j, 0 < j → j < l.length → j ≠ i → Edge l j) ∧ ∀ c, 0 < i → 0 < c → c < l.length → (c - 1) / 2 = i → ¬ Lt3 (at3 l c) (at3 l ((i - 1) / 2))
theorem rise_eq (l : List Et) (i : Nat) (hi : i < l.length) (hn : l.length ≤ 1000000) (hU : Up l i) : ∃ l', heap_list_rise l i = some l' ∧ Hp l' ∧ l'.length = l.length ∧ ∀ e, l'.count e = l.count e := by
  unfold heap_list_rise heap_list_rise_l1
  have key := loopO_rule (body := fun s => heap_list_rise_b1_0 s.1 s.2) (fun s => ∃ i : Nat, s.2 = i ∧ i < s.1.length ∧ s.1.length = l.length ∧ Up s.1 i ∧ ∀ e, s.1.count e = l.count e) (fun s => s.2.toNat) (fun l' => Hp l' ∧ l'.length = l.length ∧ ∀ e, l'.count e = l.count e) ?_ (s := (l, (i : Int))) ⟨i, rfl, hi, rfl, hU, fun _ => rfl⟩
  · obtain ⟨r, h1, h2⟩ := key; exact ⟨r, h1, h2⟩
  rintro ⟨m, _⟩ ⟨i, rfl, hi, hl, hU, hc⟩
  simp only at hi hl hU hc ⊢
  unfold heap_list_rise_b1_0
  by_cases h0 : i = 0
  · subst h0
    refine .inr ⟨m, by simp, fun j hj hjl => hU.1 j hj hjl (by omega), hl, hc⟩
  · have hd : decide ((i : Int) = 0) = false := by simp; exact h0
    have e1 : sb (i : Int) 1 = ((i - 1 : Nat) : Int) := by rw [sb_in (by omega)]; omega
    have hp : (i - 1) / 2 < m.length := by omega
    simp only [hd, e1, quK_nat (i - 1) (by omega), bind_some', ix_getD (0, 0, 0) hi, ix_getD (0, 0, 0) hp, heap_Less_eq]
    by_cases hlt : Lt3 (at3 m i) (at3 m ((i - 1) / 2))
    · have hlt' : decide (Lt3 (m.getD i (0, 0, 0)) (m.getD ((i - 1) / 2) (0, 0, 0))) = true := decide_eq_true hlt
      simp only [hlt', swap_eq hi hp, bind_some', if_true]
      refine .inl ⟨(swp m i ((i - 1) / 2), (((i - 1) / 2 : Nat) : Int)), by simp, ⟨(i - 1) / 2, rfl, by simpa [swp_len] using hp, by rw [swp_len]; exact hl, ⟨?_, ?_⟩, fun e => by rw [swp_count hi hp]; exact hc e⟩, by simp; omega⟩
      · intro j hj hjl hne
        rw [swp_len] at hjl
        unfold Edge
        rw [swp_at hi hp, swp_at hi hp]
        by_cases hji : j = i
        · subst hji
          simp only [hne, if_false, if_true]
          exact Lt3.asym hlt
        · have hEj := hU.1 j hj hjl hji
          unfold Edge at hEj
          simp only [hne, if_false, hji]
          by_cases hpj : (j - 1) / 2 = (i - 1) / 2
          · simp only [hpj, if_true]
            rw [hpj] at hEj
            exact Lt3.nlt (Lt3.asym hlt) hEj
          · simp only [hpj, if_false]
            by_cases hpi : (j - 1) / 2 = i
            · simp only [hpi, if_true]
              exact hU.2 j (by omega) hj hjl hpi
            · simp only [hpi, if_false]
              exact hEj
      · intro c hp0 hc0 hcl hcp
        rw [swp_len] at hcl
        rw [swp_at hi hp, swp_at hi hp]
        have hgi : ¬ ((i - 1) / 2 - 1) / 2 = i := by omega
        have hgp : ¬ ((i - 1) / 2 - 1) / 2 = (i - 1) / 2 := by omega
        have hcnp : ¬ c = (i - 1) / 2 := by omega
        simp only [hgi, hgp, hcnp, if_false]
        have hEp := hU.1 ((i - 1) / 2) hp0 hp (by omega)
        unfold Edge at hEp
        by_cases hci : c = i
        · simp only [hci, if_true]
          exact hEp
        · simp only [hci, if_false]
          have hEc := hU.1 c hc0 hcl hci
          unfold Edge at hEc
          rw [hcp] at hEc
          exact Lt3.nlt hEp hEc
    · have hlt' : decide (Lt3 (m.getD i (0, 0, 0)) (m.getD ((i - 1) / 2) (0, 0, 0))) = false := decide_eq_false hlt
      refine .inr ⟨m, by simp only [hlt', bind_some']; rfl, fun j hj hjl => ?_, hl, hc⟩
      by_cases hji : j = i
      · subst hji; exact hlt
      · exact hU.1 j hj hjl hji

/-! ### down -/
/-- A heap, but what lies under place i may come ahead of it; and place i0, where it began, ahead of the one over it. -/
def Dn (l : List Et) (i0 i : Nat) : Prop := (∀ j, 0 < j → j < l.length → (j - 1) / 2 ≠ i → (i = i0 → j ≠ i0) → Edge l j) ∧ ∀ c, 0 < i → 0 < c → c < l.length → (c - 1) / 2 = i → ¬ Lt3 (at3 l c) (at3 l ((i - 1) / 2))
theorem least_eq {m : List Et} {i : Nat} (hi : i < m.length) (hn : m.length ≤ 1000000) : ∃ r, heap_list_sink_b1_0 m i = some r ∧ ∃ L, (L = i ∨ (0 < L ∧ L < m.length ∧ (L - 1) / 2 = i)) ∧ (∀ c, 0 < c → c < m.length → (c - 1) / 2 = i → ¬ Lt3 (at3 m c) (at3 m L)) ∧ (L = i ∨ Lt3 (at3 m L) (at3 m i)) ∧ r = (if L = i then .inr m else .inl (swp m i L, (L : Int))) := by
  unfold heap_list_sink_b1_0 heap_list_sink_l2
  have e2 : ml 2 (i : Int) = ((2 * i : Nat) : Int) := by rw [ml_in (by omega)]; omega
  have e3 : ad ((2 * i : Nat) : Int) 1 = ((2 * i + 1 : Nat) : Int) := by rw [ad_in (by omega)]; omega
  have e4 : ad ((2 * i : Nat) : Int) 2 = ((2 * i + 2 : Nat) : Int) := by rw [ad_in (by omega)]; omega
  rw [e2, e3]
  refine loopO_rule (body := fun s => heap_list_sink_b2 m (i : Int) s.1 s.2)
    (fun s => ∃ L k : Nat, s = ((L : Int), (k : Int)) ∧ 2 * i + 1 ≤ k ∧ k ≤ 2 * i + 3 ∧ L < k ∧ (L = i ∨ (0 < L ∧ L < m.length ∧ (L - 1) / 2 = i)) ∧ (∀ c, 0 < c → c < m.length → (c - 1) / 2 = i → c < k → ¬ Lt3 (at3 m c) (at3 m L)) ∧ (L = i ∨ Lt3 (at3 m L) (at3 m i)))
    (fun s => 2 * i + 3 - s.2.toNat) _ ?_ ⟨i, 2 * i + 1, rfl, by omega, by omega, by omega, .inl rfl, fun c h0 h1 h2 h3 => by omega, .inl rfl⟩
  rintro _ ⟨L, k, rfl, hk1, hk2, hLk, hL, hmin, hlt⟩
  have hLl : L < m.length := by omega
  unfold heap_list_sink_b2
  simp only [e2, e4]
  by_cases hk : k ≤ 2 * i + 2 ∧ k < m.length
  · have hc : (decide ((k : Int) ≤ ((2 * i + 2 : Nat) : Int)) && decide ((k : Int) < (m.length : Int))) = true := by simp; omega
    simp only [hc, bind_some', if_true, ix_getD (0, 0, 0) hk.2, ix_getD (0, 0, 0) hLl, heap_Less_eq]
    have ek : ad (k : Int) 1 = ((k + 1 : Nat) : Int) := by rw [ad_in (by omega)]; omega
    by_cases h : Lt3 (at3 m k) (at3 m L)
    · have h' : decide (Lt3 (m.getD k (0, 0, 0)) (m.getD L (0, 0, 0))) = true := decide_eq_true h
      simp only [h', if_true, heap_list_sink_k3, ek]
      refine .inl ⟨_, rfl, ⟨k, k + 1, rfl, by omega, by omega, by omega, .inr (by omega), ?_, .inr ?_⟩, by simp; omega⟩
      · intro c h0 h1 h2 h3
        by_cases hck : c = k
        · rw [hck]; exact Lt3.irr _
        · exact Lt3.nlt (Lt3.asym h) (hmin c h0 h1 h2 (by omega))
      · rcases hlt with rfl | hlt
        · exact h
        · unfold Lt3 at *; omega
    · have h' : decide (Lt3 (m.getD k (0, 0, 0)) (m.getD L (0, 0, 0))) = false := decide_eq_false h
      simp only [h', heap_list_sink_k3, ek]
      refine .inl ⟨_, rfl, ⟨L, k + 1, rfl, by omega, by omega, by omega, hL, ?_, hlt⟩, by simp; omega⟩
      intro c h0 h1 h2 h3
      by_cases hck : c = k
      · rw [hck]; exact h
      · exact hmin c h0 h1 h2 (by omega)
  · have hc : (decide ((k : Int) ≤ ((2 * i + 2 : Nat) : Int)) && decide ((k : Int) < (m.length : Int))) = false := by
      rw [Bool.and_eq_false_iff]; simp only [decide_eq_false_iff_not]; omega
    simp only [hc, bind_some', Bool.false_eq_true, if_false]
    refine .inr ?_
    have hmin' : ∀ c, 0 < c → c < m.length → (c - 1) / 2 = i → ¬ Lt3 (at3 m c) (at3 m L) := fun c h0 h1 h2 => hmin c h0 h1 h2 (by omega)
    by_cases hLi : L = i
    · refine ⟨_, by simp [hLi]; rfl, L, hL, hmin', hlt, by rw [if_pos hLi]⟩
    · have hd : (!decide ((L : Int) = (i : Int))) = true := by simp; omega
      simp only [hd, if_true, swap_eq hi hLl, bind_some']
      exact ⟨_, rfl, L, hL, hmin', hlt, by rw [if_neg hLi]⟩
theorem sink_eq (l : List Et) (i0 : Nat) (hi : i0 < l.length) (hn : l.length ≤ 1000000) (hD : Dn l i0 i0) : ∃ l', heap_list_sink l i0 = some l' ∧ Up l' i0 ∧ l'.length = l.length ∧ ∀ e, l'.count e = l.count e := by
  unfold heap_list_sink heap_list_sink_l1
  have key := loopO_rule (body := fun s => heap_list_sink_b1_0 s.1 s.2) (fun s => ∃ i : Nat, s.2 = i ∧ i0 ≤ i ∧ i < s.1.length ∧ s.1.length = l.length ∧ Dn s.1 i0 i ∧ ∀ e, s.1.count e = l.count e) (fun s => l.length - s.2.toNat) (fun l' => Up l' i0 ∧ l'.length = l.length ∧ ∀ e, l'.count e = l.count e) ?_ (s := (l, (i0 : Int))) ⟨i0, rfl, Nat.le_refl _, hi, rfl, hD, fun _ => rfl⟩
  · obtain ⟨r, h1, h2⟩ := key; exact ⟨r, h1, h2⟩
  rintro ⟨m, _⟩ ⟨i, rfl, h0i, hi, hl, hD, hc⟩
  simp only at h0i hi hl hD hc ⊢
  obtain ⟨r, hr, L, hL, hmin, hlt, rfl⟩ := least_eq hi (by omega)
  by_cases hLi : L = i
  · subst hLi
    rw [if_pos rfl] at hr
    refine .inr ⟨m, hr, ⟨?_, ?_⟩, hl, hc⟩
    · intro j hj hjl hne
      by_cases hp : (j - 1) / 2 = L
      · unfold Edge; rw [hp]; exact hmin j hj hjl hp
      · exact hD.1 j hj hjl hp fun _ => hne
    · intro c hp0 hc0 hcl hcp
      by_cases h : L = i0
      · subst h; exact hD.2 c hp0 hc0 hcl hcp
      · have hE := hD.1 c hc0 hcl (by omega) (fun e => absurd e h)
        have hE0 := hD.1 i0 hp0 (by omega) (by omega) (fun e => absurd e h)
        unfold Edge at hE hE0
        rw [hcp] at hE
        exact Lt3.nlt hE0 hE
  · have hL' : 0 < L ∧ L < m.length ∧ (L - 1) / 2 = i := by omega
    have hlt' : Lt3 (at3 m L) (at3 m i) := by
      rcases hlt with h | h
      · exact absurd h hLi
      · exact h
    rw [if_neg hLi] at hr
    refine .inl ⟨_, hr, ⟨L, rfl, by omega, by simp only [swp_len]; omega, by simp only [swp_len]; exact hl, ⟨?_, ?_⟩, fun e => by simp only; rw [swp_count hi hL'.2.1]; exact hc e⟩, by simp; omega⟩
    · intro j hj hjl hp _
      simp only [swp_len] at hjl
      unfold Edge
      simp only
      rw [swp_at hi hL'.2.1, swp_at hi hL'.2.1]
      by_cases hjL : j = L
      · have h1 : ¬ (j - 1) / 2 = L := by omega
        have h2 : (j - 1) / 2 = i := by omega
        simp only [hjL, hL'.2.2, if_true, hp]
        simp only [show ¬ i = L from fun e => hLi e.symm, if_false]
        exact Lt3.asym hlt'
      · by_cases hji : j = i
        · subst hji
          have h1 : ¬ (j - 1) / 2 = L := by omega
          have h2 : ¬ (j - 1) / 2 = j := by omega
          simp only [hjL, if_false, if_true, h1, h2]
          exact hD.2 L hj hL'.1 hL'.2.1 hL'.2.2
        · by_cases hpi : (j - 1) / 2 = i
          · simp only [hjL, hji, if_false, hpi, if_true, show ¬ i = L from fun e => hLi e.symm]
            exact hmin j hj hjl hpi
          · simp only [hjL, hji, if_false, hp, hpi]
            exact hD.1 j hj hjl hpi (by omega)
    · intro c _ hc0 hcl hcp
      simp only [swp_len] at hcl
      simp only at hcp ⊢
      rw [swp_at hi hL'.2.1, swp_at hi hL'.2.1, hL'.2.2]
      have h1 : ¬ c = L := by omega
      have h2 : ¬ c = i := by omega
      simp only [h1, h2, if_false, show ¬ i = L from fun e => hLi e.symm, if_true]
      have hE := hD.1 c hc0 hcl (by omega) (by omega)
      unfold Edge at hE
      rw [hcp] at hE
      exact hE
end Go.Proofs.Ytoaplhnmmnejnaa
