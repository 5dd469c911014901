import Derived.Test.YtnmkonlfnpcoiaaP27b
namespace Go.Proofs.Ytnmkonlfnpcoiaa.Pl
open Go.Proofs.Ytnmkonlfnpcoiaa
set_option maxRecDepth 8000
theorem cut_mn {α : Type} (l : List α) (k : Nat) : cut l 0 (mn (l.length : Int) (k : Int)) = some (l.take k) := by
  by_cases h : k ≤ l.length
  · rw [show mn (l.length : Int) (k : Int) = (k : Int) by unfold mn; omega]; exact cut_to h
  · rw [show mn (l.length : Int) (k : Int) = (l.length : Int) by unfold mn; omega, cut_to (Nat.le_refl _), List.take_of_length_le (by omega), List.take_of_length_le (by omega)]
theorem take_min {α : Type} (l : List α) (k : Nat) : l.take (min l.length k) = l.take k := by
  by_cases h : k ≤ l.length
  · rw [Nat.min_eq_right h]
  · rw [Nat.min_eq_left (by omega), List.take_of_length_le (Nat.le_refl _), List.take_of_length_le (by omega)]
theorem map_snoc {α β : Type} (f : α → β) (l : List α) {k : Nat} (d : α) (h : k < l.length) : (l.take (k + 1)).map f = (l.take k).map f ++ [f (l.getD k d)] := by
  rw [snoc_take d h, List.map_append]; rfl
theorem flat_len {α : Type} (f : α → List Int) (c : Nat) : ∀ l : List α, (∀ x ∈ l, (f x).length ≤ c) → (l.flatMap f).length ≤ c * l.length
  | [], _ => by simp
  | x :: r, h => by
    have h1 := h x (by simp)
    have h2 := flat_len f c r fun y hy => h y (by simp [hy])
    simp only [List.flatMap_cons, List.length_append, List.length_cons]
    rw [Nat.mul_succ]; omega
theorem arc_mem (S : List Ent) : (∀ b ∈ (arc S).1, ∃ e ∈ S, b = e.2) ∧ (∀ s ∈ (arc S).2, (∃ e ∈ S, s.1 = e.1) ∧ 0 ≤ s.2 ∧ s.2 < ((arc S).1.length : Int)) := by
  have key : ∀ (rest pre : List Ent), S = pre ++ rest → ((∀ b ∈ (arc pre).1, ∃ e ∈ S, b = e.2) ∧ (∀ s ∈ (arc pre).2, (∃ e ∈ S, s.1 = e.1) ∧ 0 ≤ s.2 ∧ s.2 < ((arc pre).1.length : Int))) →
      (∀ b ∈ (arc S).1, ∃ e ∈ S, b = e.2) ∧ (∀ s ∈ (arc S).2, (∃ e ∈ S, s.1 = e.1) ∧ 0 ≤ s.2 ∧ s.2 < ((arc S).1.length : Int)) := by
    intro rest
    induction rest with
    | nil => intro pre h hp; rw [List.append_nil] at h; subst h; exact hp
    | cons e r ih =>
      intro pre h hp
      refine ih (pre ++ [e]) (by rw [h]; simp) ?_
      have hst : arc (pre ++ [e]) = stB (arc pre) e := by unfold arc; rw [List.foldl_append]; rfl
      have he : e ∈ S := by rw [h]; simp
      rw [hst]
      unfold stB
      by_cases hm : e.2 ∈ (arc pre).1
      · rw [if_pos hm]
        refine ⟨hp.1, fun s hs => ?_⟩
        rcases List.mem_append.1 hs with hs | hs
        · exact hp.2 s hs
        · rw [List.mem_singleton] at hs
          subst hs
          have := List.idxOf_lt_length_of_mem hm
          exact ⟨⟨e, he, rfl⟩, by simp, by simp only; omega⟩
      · rw [if_neg hm]
        refine ⟨fun b hb => ?_, fun s hs => ?_⟩
        · rcases List.mem_append.1 hb with hb | hb
          · exact hp.1 b hb
          · rw [List.mem_singleton] at hb; exact ⟨e, he, hb⟩
        · rcases List.mem_append.1 hs with hs | hs
          · obtain ⟨a, b, c⟩ := hp.2 s hs
            exact ⟨a, b, by simp only [List.length_append, List.length_singleton]; omega⟩
          · rw [List.mem_singleton] at hs
            subst hs
            exact ⟨⟨e, he, rfl⟩, by simp, by simp; omega⟩
  exact key S [] rfl ⟨by simp [arc], by simp [arc]⟩
def wB (b : List Int) : List Int := vb b.length ++ b
def slB (s : T3 × Int) : List Int := vb s.1.1.toNat ++ vb s.1.2.1.toNat ++ vb s.1.2.2.toNat ++ vb s.2.toNat
def bytesA (head : List Int) (A : List (List Int) × List (T3 × Int)) : List Int := [71, 82, 84, 49] ++ wB head ++ vb A.1.length ++ A.1.flatMap wB ++ vb A.2.length ++ A.2.flatMap slB
theorem put_eq {k : Int} {out : List Int} (h0 : 0 ≤ k) (h : k < 9223372036854775808) (hl : out.length ≤ 999999900) : pack_Write_1 k out = some (out ++ vb k.toNat) := by
  unfold pack_Write_1
  have e : IntKind.u64.wrap k = (k.toNat : Int) := (IntWalk.u64_in _ (by omega)).trans (by omega)
  have := vb_len k.toNat
  rw [e, varint_eq (by omega), bind_some', app_le (by omega)]; rfl
theorem putv_eq {k : Int} {out : List Int} (h0 : 0 ≤ k) (h : k < 9223372036854775808) (hl : out.length ≤ 999999900) : pack_Write_1_v k out = some (out ++ vb k.toNat) := by
  unfold pack_Write_1_v
  have e : IntKind.u64.wrap k = (k.toNat : Int) := (IntWalk.u64_in _ (by omega)).trans (by omega)
  have := vb_len k.toNat
  have hp := vb_pos k.toNat
  have ha : apF out (vb k.toNat) = app out (vb k.toNat) := by
    cases hv : vb k.toNat with
    | nil => rw [hv] at hp; simp at hp
    | cons x m => rfl
  rw [e, varint_eq (by omega), bind_some', ha, app_le (by omega)]; rfl
theorem wB_len (b : List Int) : (wB b).length ≤ b.length + 10 := by
  have := vb_len b.length
  simp [wB]; omega
theorem whole_eq {b out : List Int} (hb : b.length ≤ 1000000) (hl : out.length ≤ 900000000) : pack_Write_2 b out = some (out ++ wB b) := by
  unfold pack_Write_2
  have := vb_len b.length
  rw [putv_eq (by omega) (by omega) (by omega), bind_some', show ((b.length : Int).toNat) = b.length from rfl, app_le (by simp; omega), bind_some', wB, List.append_assoc]
theorem wholev_eq {b out : List Int} (hb : b.length ≤ 1000000) (hl : out.length ≤ 900000000) : pack_Write_2_v b out = some (out ++ wB b) := by
  unfold pack_Write_2_v
  have := vb_len b.length
  rw [put_eq (by omega) (by omega) (by omega), bind_some', show ((b.length : Int).toNat) = b.length from rfl, app_le (by simp; omega), bind_some', wB, List.append_assoc]
theorem slB_len (s : T3 × Int) : (slB s).length ≤ 40 := by
  have h1 := vb_len s.1.1.toNat
  have h2 := vb_len s.1.2.1.toNat
  have h3 := vb_len s.1.2.2.toNat
  have h4 := vb_len s.2.toNat
  simp [slB]; omega
def SlOk (s : T3 × Int) : Prop := 0 ≤ s.1.1 ∧ s.1.1 ≤ 4 ∧ 0 ≤ s.1.2.1 ∧ s.1.2.1 < 16 ∧ 0 ≤ s.1.2.2 ∧ s.1.2.2 < 16 ∧ 0 ≤ s.2 ∧ s.2 < 1000
theorem write_l2 (r : ((List Int) × (List (List Int)) × (List (T3 × Int))) × Int) (hr : ∀ s ∈ r.1.2.2, SlOk s) (hn : r.1.2.2.length ≤ 1000) : ∀ (rest pre : List (T3 × Int)) (out : List Int), r.1.2.2 = pre ++ rest → out.length ≤ 800000000 + 40 * pre.length →
    pack_Write_l2 r (out, (pre.length : Int)) = some (out ++ rest.flatMap slB, 0) := by
  intro rest
  induction rest with
  | nil =>
    intro pre out h hl
    rw [List.append_nil] at h
    refine loopO_inr ?_
    show pack_Write_b2 r out _ = _
    unfold pack_Write_b2
    rw [h, show decide ((pre.length : Int) < (pre.length : Int)) = false from by simp]
    simp
  | cons s rest ih =>
    intro pre out h hl
    have hk : pre.length < r.1.2.2.length := by rw [h]; simp
    have he : ix r.1.2.2 (pre.length : Int) = some s := by
      rw [ix_getD s hk, h]
      congr 1
      rw [getD_append_right (Nat.le_refl _), Nat.sub_self]; rfl
    obtain ⟨a1, a2, a3, a4, a5, a6, a7, a8⟩ := hr s (by rw [h]; simp)
    have v1 := vb_len s.1.1.toNat
    have v2 := vb_len s.1.2.1.toNat
    have v3 := vb_len s.1.2.2.toNat
    have v4 := slB_len s
    refine (loopO_inl (s' := (out ++ slB s, ((pre ++ [s]).length : Int))) ?_).trans ((ih (pre ++ [s]) (out ++ slB s) (by rw [h]; simp) (by simp; omega)).trans (by simp))
    show pack_Write_b2 r out _ = _
    unfold pack_Write_b2
    rw [dlt hk, if_pos rfl, he, bind_some', put_eq a1 (by omega) (by omega), bind_some', put_eq a3 (by omega) (by simp; omega), bind_some', put_eq a5 (by omega) (by simp; omega), bind_some', put_eq a7 (by omega) (by simp; omega), bind_some', ad_one (by omega)]
    simp [slB]
theorem write_l1 (r : ((List Int) × (List (List Int)) × (List (T3 × Int))) × Int) (hr : ∀ s ∈ r.1.2.2, SlOk s) (hn : r.1.2.2.length ≤ 1000) (hb : ∀ b ∈ r.1.2.1, b.length ≤ 100000) (hm : r.1.2.1.length ≤ 1000) : ∀ (rest pre : List (List Int)) (out : List Int), r.1.2.1 = pre ++ rest → out.length ≤ 1000000 + 100010 * pre.length →
    pack_Write_l1 r (out, (pre.length : Int)) = some (out ++ rest.flatMap wB ++ vb r.1.2.2.length ++ r.1.2.2.flatMap slB, 0) := by
  intro rest
  induction rest with
  | nil =>
    intro pre out h hl
    rw [List.append_nil] at h
    have hpl : pre.length ≤ 1000 := by rw [← h]; exact hm
    have v := vb_len r.1.2.2.length
    refine loopO_inr ?_
    show pack_Write_b1 r out _ = _
    unfold pack_Write_b1
    rw [h, show decide ((pre.length : Int) < (pre.length : Int)) = false from by simp]
    simp only [Bool.false_eq_true, if_false]
    rw [put_eq (by omega) (by omega) (by omega), bind_some', show ((r.1.2.2.length : Int).toNat) = r.1.2.2.length from rfl]
    have := write_l2 r hr hn r.1.2.2 [] (out ++ vb r.1.2.2.length) rfl (by simp; omega)
    rw [show ((([] : List (T3 × Int)).length : Nat) : Int) = 0 from rfl] at this
    rw [this]
    simp
  | cons s rest ih =>
    intro pre out h hl
    have hk : pre.length < r.1.2.1.length := by rw [h]; simp
    have he : ix r.1.2.1 (pre.length : Int) = some s := by
      rw [ix_getD s hk, h]
      congr 1
      rw [getD_append_right (Nat.le_refl _), Nat.sub_self]; rfl
    have hs := hb s (by rw [h]; simp)
    have v := wB_len s
    refine (loopO_inl (s' := (out ++ wB s, ((pre ++ [s]).length : Int))) ?_).trans ((ih (pre ++ [s]) (out ++ wB s) (by rw [h]; simp) (by simp; omega)).trans (by simp))
    show pack_Write_b1 r out _ = _
    unfold pack_Write_b1
    rw [dlt hk, if_pos rfl, he, bind_some', wholev_eq (by omega) (by omega), bind_some', ad_one (by omega)]
    simp
theorem arc_ok {l : List Ent} (h0 : chk [] l = 0) (hl : l.length < 128) : ∀ s ∈ (arc (isort ltE l)).2, SlOk s := by
  intro s hs
  have ha := arc_len (isort ltE l)
  obtain ⟨⟨e, he, e1⟩, h1, h2⟩ := (arc_mem (isort ltE l)).2 s hs
  have hr := rgt_in (((chk_zero l []).1 h0).1 e ((isort_perm l).mem_iff.1 he))
  rw [isort_len] at ha
  unfold SlOk
  rw [e1]
  omega
theorem write_eq {head : List Int} {l : List Ent} (hu : ∀ e ∈ l, ∀ x ∈ e.2, U8 x) (hl : l.length < 128) (hh : head.length ≤ 100000) (hb : ∀ e ∈ l, e.2.length ≤ 100000) :
    pack_Write head l = some (if chk [] l = 0 then (bytesA head (arc (isort ltE l)), 0) else ([], chk [] l)) := by
  unfold pack_Write
  rw [packed_eq hu hl]
  by_cases h0 : chk [] l = 0
  · rw [if_pos h0, if_pos h0, rngO_inl]
    have ha := arc_len (isort ltE l)
    rw [isort_len] at ha
    have hw := wB_len head
    have v := vb_len (arc (isort ltE l)).1.length
    simp only [decide_true, Bool.not_true, Bool.false_eq_true, if_false]
    rw [whole_eq (by omega) (by simp), bind_some', put_eq (by omega) (by omega) (by simp; omega), bind_some', show (((arc (isort ltE l)).1.length : Int).toNat) = (arc (isort ltE l)).1.length from rfl]
    have := write_l1 ((head, (arc (isort ltE l)).1, (arc (isort ltE l)).2), 0) (arc_ok h0 hl) (by simp only; omega) (fun b hb' => by
      obtain ⟨e, he, rfl⟩ := (arc_mem (isort ltE l)).1 b hb'
      exact hb e ((isort_perm l).mem_iff.1 he)) (by simp only; omega) (arc (isort ltE l)).1 [] ([71, 82, 84, 49] ++ wB head ++ vb (arc (isort ltE l)).1.length) rfl (by simp; omega)
    rw [show ((([] : List (List Int)).length : Nat) : Int) = 0 from rfl] at this
    rw [this]
    rfl
  · rw [if_neg h0, if_neg h0, rngO_inr]
    rw [show (!decide (chk [] l = 0)) = true from by simpa using h0]
    rfl
def cutE (e : Ent) : Ent := (e.1, e.2.take 30)
theorem Cut_eq (l : List Ent) : law27_Cut l = some ((l.take 20).map cutE) := by
  unfold law27_Cut
  have := loopO_nat (body := fun (s : (List Ent) × Int) => law27_Cut_b1 l s.1 s.2) (fun k => ((l.take k).map cutE, (k : Int))) (min l.length 20) ((l.take (min l.length 20)).map cutE) (fun k hk => by
    show law27_Cut_b1 l _ (k : Int) = _
    unfold law27_Cut_b1
    have hk' : k < l.length := by omega
    rw [dlt hk', show decide ((k : Int) < 20) = true from by simp only [decide_eq_true_eq]; omega, bind_some', Bool.true_and, if_pos rfl, ix_getD ((0, 0, 0), []) hk', bind_some', show (30 : Int) = ((30 : Nat) : Int) from rfl, cut_mn, bind_some', app_le (by simp; omega), bind_some', ad_one (by omega), map_snoc cutE l ((0, 0, 0), []) hk']
    rfl) (by
    show law27_Cut_b1 l _ ((min l.length 20 : Nat) : Int) = _
    unfold law27_Cut_b1
    have : (decide (((min l.length 20 : Nat) : Int) < (l.length : Int)) && decide (((min l.length 20 : Nat) : Int) < 20)) = false := by simp; omega
    rw [this]
    rfl)
  rw [take_min] at this
  exact this
theorem cutE_u8 {l : List Ent} (hu : ∀ e ∈ l, ∀ x ∈ e.2, U8 x) : (∀ e ∈ (l.take 20).map cutE, ∀ x ∈ e.2, U8 x) ∧ ((l.take 20).map cutE).length ≤ 20 ∧ ∀ e ∈ (l.take 20).map cutE, e.2.length ≤ 30 := by
  refine ⟨fun e he x hx => ?_, by simp; omega, fun e he => ?_⟩
  · obtain ⟨a, ha, rfl⟩ := List.mem_map.1 he
    exact hu a (List.mem_of_mem_take ha) x (List.mem_of_mem_take hx)
  · obtain ⟨a, ha, rfl⟩ := List.mem_map.1 he
    simp [cutE]; omega
theorem write0 : pack_Write [] [] = some ([71, 82, 84, 49, 0, 0, 0], 0) := by
  rw [write_eq (fun e he => (by cases he)) (by decide) (by decide) (fun e he => (by cases he))]; rfl
theorem write1 : pack_Write [] [((0, 0, 0), [7])] = some ([71, 82, 84, 49, 0, 1, 1, 7, 1, 0, 0, 0, 0], 0) := by
  rw [write_eq (fun e he x hx => by
    rw [List.mem_singleton] at he; subst he
    rw [List.mem_singleton] at hx; subst hx
    unfold U8; omega) (by decide) (by decide) (fun e he => by rw [List.mem_singleton] at he; subst he; decide)]
  rfl
theorem pre1 : strings_HasPrefix (bsS [71, 82, 84, 49, 0, 1, 1, 7, 1, 0, 0, 0, 0]) (⟨#[71, 82, 84, 49]⟩ : ByteArray) = some true := by decide +kernel
theorem open1 : pack_Open [71, 82, 84, 49, 0, 1, 1, 7, 1, 0, 0, 0, 0] = some (.inl (([], [[7]], [((0, 0, 0), 0)]), 0)) := by
  unfold pack_Open
  rw [pre1, bind_some', if_neg (by decide)]
  refine (show _ = pack_Open_l1 (Sum.inl ([], [[7]], upM [] (bsS [7]) true, [1, 0, 0, 0, 0], 0, 1, 1)) from rfl).trans ?_
  refine (show loopO _ _ = _ from (loopO_inl (s' := Sum.inr ([], [[7]], [((0, 0, 0), 0)], [], 0, 1, 1, 1, (0, 0, 0))) rfl).trans (loopO_inr rfl))
theorem known27 : law27_known = some true := by
  unfold law27_known
  rw [write0, bind_some', write1, bind_some', open1, rngO_inl]
  simp only [decide_true, Bool.and_self, bind_some', gd_true]
  rw [Same_eq _ _ (by simp), bind_some']
  simp only [decide_true, Bool.and_self, bind_some', gd_true]
  rw [Same_eq _ _ (by simp), bind_some']
  rfl
end Go.Proofs.Ytnmkonlfnpcoiaa.Pl
