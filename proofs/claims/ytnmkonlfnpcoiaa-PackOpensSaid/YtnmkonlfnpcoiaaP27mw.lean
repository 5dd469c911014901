import Derived.Test.YtnmkonlfnpcoiaaP27mo
namespace Go.Proofs.Ytnmkonlfnpcoiaa.Pl
open Go.Proofs.Ytnmkonlfnpcoiaa
set_option maxRecDepth 8000
def ddS (acc : List (List Int)) (e : Ent) : List (List Int) := if e.2 ∈ acc then acc else acc ++ [e.2]
def dd (l : List Ent) : List (List Int) := l.foldl ddS []
theorem dd_arc (S : List Ent) : (arc S).1 = dd S := by
  have : ∀ (S : List Ent) (s : List (List Int) × List (T3 × Int)), (S.foldl stB s).1 = S.foldl ddS s.1 := by
    intro S
    induction S with
    | nil => intro s; rfl
    | cons e r ih =>
      intro s
      rw [List.foldl_cons, List.foldl_cons, ih]
      congr 1
      unfold stB ddS
      split <;> rfl
  exact this S ([], [])
theorem dd_mem (l : List Ent) : ∀ x, x ∈ dd l ↔ x ∈ l.map (·.2) := by
  have : ∀ (l : List Ent) (acc : List (List Int)) (x : List Int), x ∈ l.foldl ddS acc ↔ x ∈ acc ∨ x ∈ l.map (·.2) := by
    intro l
    induction l with
    | nil => intro acc x; simp
    | cons e r ih =>
      intro acc x
      rw [List.foldl_cons, ih]
      unfold ddS
      split
      · rename_i h
        simp only [List.map_cons, List.mem_cons]
        constructor
        · rintro (h1 | h1)
          · exact .inl h1
          · exact .inr (.inr h1)
        · rintro (h1 | h1 | h1)
          · exact .inl h1
          · subst h1; exact .inl h
          · exact .inr h1
      · simp only [List.mem_append, List.mem_singleton, List.map_cons, List.mem_cons, or_assoc, List.not_mem_nil, false_or]
  intro x
  simpa [dd] using this l [] x
theorem eqB {a b : List Int} (ha : ∀ x ∈ a, U8 x) (hb : ∀ x ∈ b, U8 x) : eqS (bsS a) (bsS b) = decide (a = b) := by
  rw [eqS_eq]
  by_cases h : a = b
  · rw [h]; simp
  · rw [decide_eq_false h, decide_eq_false]
    exact fun hh => h (bsS_inj ha hb hh)
abbrev d0 : Ent := ((0, 0, 0), [])
section
variable {head : List Int} {l : List Ent} (h0 : chk [] l = 0) (hl : l.length < 128) (hh : head.length ≤ 1000) (hb : ∀ e ∈ l, e.2.length ≤ 1000) (hh8 : ∀ x ∈ head, U8 x) (hu : ∀ e ∈ l, ∀ x ∈ e.2, U8 x)
include h0 hl hh hb hh8 hu
set_option linter.unusedSectionVars false
end
open Go.Proofs.Ytnmkonlfnpcoiaa
set_option maxRecDepth 8000
def ofE (e : Ent) : T3 × ByteArray := (e.1, bsS e.2)
abbrev dr : T3 × ByteArray := ((0, 0, 0), ByteArray.empty)
theorem power_eq {z : Int} (h : 0 ≤ z ∧ z ≤ 4) : ref01_Power z = some (cnt z) := by
  have : z = 0 ∨ z = 1 ∨ z = 2 ∨ z = 3 ∨ z = 4 := by omega
  unfold ref01_Power
  have key : ∀ n : Nat, n ≤ 4 → ref01_Power_l1 (n : Int) (1, 0) = some ((2 ^ n : Nat) : Int) := fun n hn =>
    loopO_nat (body := fun s => ref01_Power_b1 (n : Int) s.1 s.2) (fun k => (((2 ^ k : Nat) : Int), (k : Int))) n _ (fun k hk => by
      show ref01_Power_b1 (n : Int) ((2 ^ k : Nat) : Int) (k : Int) = some (.inl (((2 ^ (k + 1) : Nat) : Int), ((k + 1 : Nat) : Int)))
      unfold ref01_Power_b1
      have hp : 2 ^ k ≤ 16 := by
        have := Nat.pow_le_pow_right (show 0 < 2 by omega) (show k ≤ 4 by omega)
        omega
      rw [dlt hk, if_pos rfl, ad_one (by omega), ml_in (by generalize 2 ^ k = q at hp; omega)]
      congr 3
      rw [Nat.pow_succ]; omega) (by
      show ref01_Power_b1 (n : Int) _ (n : Int) = _
      unfold ref01_Power_b1
      rw [dnlt (Nat.lt_irrefl _), if_neg (by decide)]; rfl)
  rcases this with rfl | rfl | rfl | rfl | rfl
  · exact key 0 (by omega)
  · exact key 1 (by omega)
  · exact key 2 (by omega)
  · exact key 3 (by omega)
  · exact key 4 (by omega)
theorem rright (t : T3) : ref20_Right t = some (rgt t) := by
  unfold ref20_Right ref16_Level
  rw [bind_some', bind_some']
  by_cases h : 0 ≤ t.1 ∧ t.1 ≤ 4
  · rw [show (decide (0 ≤ t.1) && decide (t.1 ≤ 4)) = true from by simpa using h, power_eq h, Bool.true_and]
    unfold rgt
    by_cases h1 : 0 ≤ t.2.1
    · rw [decide_eq_true h1, gd_true, bind_some', bind_some', Bool.true_and]
      by_cases h2 : t.2.1 < cnt t.1
      · rw [decide_eq_true h2, Bool.true_and]
        by_cases h3 : 0 ≤ t.2.2
        · rw [decide_eq_true h3, gd_true, bind_some']; rfl
        · rw [decide_eq_false h3]; rfl
      · rw [decide_eq_false h2]; rfl
    · rw [decide_eq_false h1]; rfl
  · have h0 : cnt t.1 = 0 := if_neg h
    rw [show (decide (0 ≤ t.1) && decide (t.1 ≤ 4)) = false from by simp; omega]
    unfold rgt
    rw [h0]
    show some false = some _
    congr 1
    symm
    simp only [Bool.and_eq_false_iff, decide_eq_false_iff_not]
    omega
theorem rless (a b : T3) : ref20_Less a b = some (ltT a b) := by
  unfold ref20_Less ltT
  by_cases h : a.1 = b.1
  · rw [decide_eq_true h, show decide (a.1 < b.1) = false from by simp [h]]
    simp only [Bool.not_true, Bool.false_eq_true, if_false, Bool.false_or, Bool.true_and]
    by_cases h2 : a.2.1 = b.2.1
    · rw [decide_eq_true h2, show decide (a.2.1 < b.2.1) = false from by simp [h2]]; rfl
    · rw [decide_eq_false h2]; simp
  · rw [decide_eq_false h]; simp
theorem getD_map' {α β : Type} (f : α → β) (l : List α) {k : Nat} (d : α) (e : β) (h : k < l.length) : (l.map f).getD k e = f (l.getD k d) := by
  simp [List.getD_eq_getElem?_getD, h]
open Go.Proofs.Ytnmkonlfnpcoiaa
set_option maxRecDepth 8000
theorem place_eq {bl : List (List Int)} {b : List Int} (hu : ∀ c ∈ bl, ∀ x ∈ c, U8 x) (hb : ∀ x ∈ b, U8 x) (hl : bl.length ≤ 1000) : ref27_place (bl.map bsS) (bsS b) = some (bl.idxOf b : Int) := by
  have hml : ((bl.map bsS).length : Int) = (bl.length : Int) := by simp
  have key : ∀ k x : Nat, x + k = bl.length → b ∉ bl.take x → ref27_place_l1 (bl.map bsS) (bsS b) (x : Int) = some (bl.idxOf b : Int) := by
    intro k
    induction k with
    | zero =>
      intro x hx hn
      have hx : x = bl.length := by omega
      subst hx
      rw [take_all] at hn
      refine loopO_inr ?_
      show ref27_place_b1 _ _ _ = _
      unfold ref27_place_b1
      rw [hml, dnlt (Nat.lt_irrefl _), gd_false, bind_some', bind_some', Bool.false_and, if_neg (by decide), List.idxOf_eq_length hn]; rfl
    | succ k ih =>
      intro x hx hn
      have hxl : x < bl.length := by omega
      have hb2 : ref27_place_b1 (bl.map bsS) (bsS b) (x : Int) = if bl.getD x [] = b then some (.inr (x : Int)) else some (.inl ((x + 1 : Nat) : Int)) := by
        unfold ref27_place_b1
        rw [hml, dlt hxl, gd_true, ix_getD ByteArray.empty (by simpa using hxl), getD_map' bsS bl [] ByteArray.empty hxl, bind_some', bind_some', Bool.true_and, eqB (hu _ (getD_mem hxl)) hb]
        by_cases h : bl.getD x [] = b
        · rw [decide_eq_true h, if_pos h]; rfl
        · rw [decide_eq_false h, if_neg h, ad_one (by omega)]; rfl
      by_cases h : bl.getD x [] = b
      · rw [if_pos h] at hb2
        refine (loopO_inr hb2).trans ?_
        have e : bl.idxOf b = x := by
          have : (bl.take x ++ bl.drop x).idxOf b = x := by
            rw [List.idxOf_append, if_neg hn, drop_cons [] hxl, h, List.idxOf_cons_self]
            simp; omega
          rwa [List.take_append_drop] at this
        rw [e]
      · rw [if_neg h] at hb2
        refine (loopO_inl hb2).trans (ih (x + 1) (by omega) fun hm => ?_)
        rw [snoc_take [] hxl] at hm
        rcases List.mem_append.1 hm with hm | hm
        · exact hn hm
        · exact h (List.mem_singleton.1 hm).symm
  exact key bl.length 0 (by omega) (by simp)
theorem dd_u8 {S : List Ent} (hu : ∀ e ∈ S, ∀ x ∈ e.2, U8 x) : ∀ c ∈ dd S, ∀ x ∈ c, U8 x := fun c hc => by
  obtain ⟨e, he, rfl⟩ := List.mem_map.1 ((dd_mem S c).1 hc)
  exact hu e he
theorem dd_len (S : List Ent) : (dd S).length ≤ S.length := by rw [← dd_arc]; exact (arc_len S).1
theorem Blobs_eq {h : ByteArray} {S : List Ent} (hu : ∀ e ∈ S, ∀ x ∈ e.2, U8 x) (hl : S.length ≤ 1000) : ref27_Blobs (h, S.map ofE) = some ((dd S).map bsS) := by
  have hml : ((S.map ofE).length : Int) = (S.length : Int) := by simp
  have := loopO_nat (body := fun (s : (List ByteArray) × Int) => ref27_Blobs_b1 (h, S.map ofE) s.1 s.2) (fun k => ((dd (S.take k)).map bsS, (k : Int))) S.length ((dd S).map bsS) (fun k hk => by
    show ref27_Blobs_b1 (h, S.map ofE) _ (k : Int) = _
    have hut : ∀ e ∈ S.take k, ∀ x ∈ e.2, U8 x := fun e he => hu e (List.mem_of_mem_take he)
    have hdl : (dd (S.take k)).length ≤ k := by have := dd_len (S.take k); simp at this; omega
    have hst : dd (S.take (k + 1)) = ddS (dd (S.take k)) (S.getD k d0) := by unfold dd; rw [foldl_snoc _ _ _ d0 hk]
    unfold ref27_Blobs_b1 ref27_Blobs_k2
    dsimp only
    rw [hml, dlt hk, if_pos rfl, ix_getD dr (by simpa using hk), getD_map' ofE S d0 dr hk, bind_some']
    show (ref27_place _ (bsS (S.getD k d0).2)).bind _ = _
    rw [place_eq (dd_u8 hut) (hu _ (getD_mem hk)) (by omega), bind_some', hst, ad_one (by omega), List.length_map]
    unfold ddS
    by_cases hm : (S.getD k d0).2 ∈ dd (S.take k)
    · have := List.idxOf_lt_length_of_mem hm
      rw [if_pos hm, decide_eq_false (by omega), if_neg (by decide)]
    · rw [if_neg hm, List.idxOf_eq_length hm, decide_eq_true rfl, if_pos rfl, bind_some']
      show (app _ [bsS (S.getD k d0).2]).bind _ = _
      rw [app_le (by simp; omega), bind_some', List.map_append]; rfl) (by
    show ref27_Blobs_b1 (h, S.map ofE) _ (S.length : Int) = _
    unfold ref27_Blobs_b1
    dsimp only
    rw [hml, dnlt (Nat.lt_irrefl _), if_neg (by decide), take_all]; rfl)
  exact this
theorem arc_slots (S : List Ent) : (arc S).2 = S.map fun e => (e.1, ((dd S).idxOf e.2 : Int)) := by
  have pre : ∀ (S : List Ent) (s : List (List Int) × List (T3 × Int)), ∃ t, (S.foldl stB s).1 = s.1 ++ t := by
    intro S
    induction S with
    | nil => intro s; exact ⟨[], by simp⟩
    | cons e r ih =>
      intro s
      obtain ⟨t, ht⟩ := ih (stB s e)
      have h1 : ∃ t, (stB s e).1 = s.1 ++ t := by
        unfold stB
        split
        · exact ⟨[], by simp⟩
        · exact ⟨[e.2], rfl⟩
      obtain ⟨u, h1⟩ := h1
      exact ⟨u ++ t, by rw [List.foldl_cons, ht, h1, List.append_assoc]⟩
  have key : ∀ (S : List Ent) (s : List (List Int) × List (T3 × Int)), (S.foldl stB s).2 = s.2 ++ S.map fun e => (e.1, ((S.foldl stB s).1.idxOf e.2 : Int)) := by
    intro S
    induction S with
    | nil => intro s; simp
    | cons e r ih =>
      intro s
      rw [List.foldl_cons, ih]
      have h1 : e.2 ∈ (stB s e).1 ∧ (stB s e).2 = s.2 ++ [(e.1, ((stB s e).1.idxOf e.2 : Int))] := by
        unfold stB
        split
        · rename_i h; exact ⟨h, rfl⟩
        · rename_i h
          refine ⟨by simp, ?_⟩
          rw [List.idxOf_append, if_neg h, List.idxOf_cons_self]; simp
      obtain ⟨t, ht⟩ := pre r (stB s e)
      have h2 : (r.foldl stB (stB s e)).1.idxOf e.2 = (stB s e).1.idxOf e.2 := by
        rw [ht, List.idxOf_append, if_pos h1.1]
      rw [h1.2, List.map_cons, h2]
      simp
  have := key S ([], [])
  rw [← dd_arc]
  exact this
open Go.Proofs.Ytnmkonlfnpcoiaa
set_option maxRecDepth 8000
def Str (S : List Ent) : Prop := S.Pairwise fun a b => ltT a.1 b.1 = true
theorem Str.at_ {S : List Ent} (h : Str S) {i j : Nat} (hij : i < j) (hj : j < S.length) : ltT (S.getD i d0).1 (S.getD j d0).1 = true := by
  have := (List.pairwise_iff_getElem.1 h) i j (by omega) hj hij
  have e1 : S.getD i d0 = S[i] := by simp [List.getD_eq_getElem?_getD, show i < S.length by omega]
  have e2 : S.getD j d0 = S[j] := by simp [List.getD_eq_getElem?_getD, hj]
  rw [e1, e2]; exact this
theorem clone_eq {b : List Int} (h : b.length ≤ 1000000000) : bytes_Clone b = some b := by
  unfold bytes_Clone
  rw [app_le (by simpa using h)]; rfl
theorem eqS_self (s : ByteArray) : eqS s s = true := by rw [eqS_eq]; exact decide_eq_true rfl
theorem srK1 (n : Nat) : srK .u64 (n : Int) 1 = some ((n / 2 : Nat) : Int) := by
  unfold srK
  rw [if_pos (by decide)]
  congr 1
section
variable {head : List Int} {S : List Ent} (hs : Str S) (hl : S.length ≤ 341) (hb : ∀ e ∈ S, e.2.length ≤ 1000000)
include hs hl hb
set_option linter.unusedSectionVars false
theorem slot_at {k : Nat} (hk : k < S.length) : ix (arc S).2 (k : Int) = some ((S.getD k d0).1, ((dd S).idxOf (S.getD k d0).2 : Int)) ∧ ix (arc S).1 ((dd S).idxOf (S.getD k d0).2 : Int) = some (S.getD k d0).2 := by
  constructor
  · rw [arc_slots, ix_getD ((0, 0, 0), 0) (by simpa using hk), getD_map' _ S d0 _ hk]
  · rw [dd_arc]
    have hi := List.idxOf_lt_length_of_mem ((dd_mem S _).2 (List.mem_map.2 ⟨_, getD_mem (d := d0) hk, rfl⟩))
    rw [ix_getD [] hi, List.getD_eq_getElem?_getD, List.getElem?_eq_getElem hi, List.getElem_idxOf hi]; rfl
theorem Entries_eq : pack_Pack_Entries (head, arc S) = some S := by
  have hsl := (arc_len S).2
  have := loopO_nat (body := fun (s : List Ent × Int) => pack_Pack_Entries_b1 (head, arc S) s.1 s.2) (fun k => (S.take k, (k : Int))) S.length S (fun k hk => by
    show pack_Pack_Entries_b1 _ _ (k : Int) = _
    obtain ⟨h1, h2⟩ := slot_at hs hl hb hk
    have := hb _ (getD_mem (d := d0) hk)
    unfold pack_Pack_Entries_b1
    dsimp only
    rw [hsl, dlt hk, if_pos rfl, h1, bind_some', h2, bind_some', clone_eq (by omega), bind_some', app_le (by simp; omega), bind_some', ad_one (by omega), snoc_take d0 hk]) (by
    show pack_Pack_Entries_b1 _ _ (S.length : Int) = _
    unfold pack_Pack_Entries_b1
    dsimp only
    rw [hsl, dnlt (Nat.lt_irrefl _), if_neg (by decide), take_all]; rfl)
  exact this
theorem Search_go (t : T3) : ∀ (m i j : Nat), j - i ≤ m → i ≤ j → j ≤ S.length → (∀ y, y < i → ltT (S.getD y d0).1 t = true) → (∀ y, j ≤ y → y < S.length → ltT (S.getD y d0).1 t = false) →
    ∃ r : Nat, sort_Search_Get_1_l1 (head, arc S) t ((i : Int), (j : Int)) = some (r : Int) ∧ r ≤ S.length ∧ (∀ y, y < r → ltT (S.getD y d0).1 t = true) ∧ (∀ y, r ≤ y → y < S.length → ltT (S.getD y d0).1 t = false) := by
  intro m
  induction m with
  | zero =>
    intro i j hm hij hj h1 h2
    have : j = i := by omega
    subst this
    refine ⟨j, loopO_inr ?_, hj, h1, h2⟩
    show sort_Search_Get_1_b1 _ _ (j : Int) (j : Int) = _
    unfold sort_Search_Get_1_b1
    rw [dnlt (Nat.lt_irrefl _), if_neg (by decide)]; rfl
  | succ m ih =>
    intro i j hm hij hj h1 h2
    by_cases hc : i < j
    · have hmid : (i + j) / 2 < S.length := by omega
      have hb1 : sort_Search_Get_1_b1 (head, arc S) t (i : Int) (j : Int) = if ltT (S.getD ((i + j) / 2) d0).1 t then some (.inl ((((i + j) / 2 + 1 : Nat) : Int), (j : Int))) else some (.inl ((i : Int), (((i + j) / 2 : Nat) : Int))) := by
        unfold sort_Search_Get_1_b1 sort_Search_Get_1_k2
        rw [dlt hc, if_pos rfl, adn (by omega) (by omega) (by omega) (by omega), ← Int.natCast_add, u64_nat (by omega), srK1, bind_some', show IntKind.i64.wrap (((i + j) / 2 : Nat) : Int) = (((i + j) / 2 : Nat) : Int) from IntWalk.i64_in _ (by omega)]
        unfold pack_Pack_Get_1
        dsimp only
        rw [(slot_at hs hl hb hmid).1, bind_some', wless, bind_some', bind_some', ad_one (by omega)]
        cases ltT (S.getD ((i + j) / 2) d0).1 t <;> rfl
      by_cases h3 : ltT (S.getD ((i + j) / 2) d0).1 t = true
      · rw [if_pos h3] at hb1
        obtain ⟨r, hr, h⟩ := ih ((i + j) / 2 + 1) j (by omega) (by omega) hj (fun y hy => by
          by_cases he : y = (i + j) / 2
          · rw [he]; exact h3
          · exact wkT.tr (hs.at_ (show y < (i + j) / 2 by omega) hmid) h3) h2
        exact ⟨r, (loopO_inl hb1).trans hr, h⟩
      · rw [if_neg h3] at hb1
        obtain ⟨r, hr, h⟩ := ih i ((i + j) / 2) (by omega) (by omega) (by omega) h1 (fun y hy hy2 => by
          by_cases he : y = (i + j) / 2
          · rw [he]; simpa using h3
          · cases hq : ltT (S.getD y d0).1 t with
            | false => rfl
            | true => exact absurd (wkT.tr (hs.at_ (show (i + j) / 2 < y by omega) hy2) hq) h3)
        exact ⟨r, (loopO_inl hb1).trans hr, h⟩
    · exact ih i j (by omega) hij hj h1 h2
theorem Get_no {t : T3} (ht : t ∉ S.map (·.1)) : pack_Pack_Get (head, arc S) t = some ([], false) := by
  have hsl := (arc_len S).2
  obtain ⟨r, hr, h1, h2, h3⟩ := Search_go (head := head) hs hl hb t S.length 0 S.length (by omega) (by omega) (Nat.le_refl _) (fun y hy => by omega) (fun y hy hy2 => by omega)
  have hr : sort_Search_Get_1 (S.length : Int) (head, arc S) t = some (r : Int) := hr
  unfold pack_Pack_Get
  dsimp only
  rw [hsl, hr, bind_some']
  by_cases hc : r = S.length
  · rw [decide_eq_true (show (r : Int) = (S.length : Int) by omega)]; rfl
  · have hrl : r < S.length := by omega
    rw [decide_eq_false (show ¬ (r : Int) = (S.length : Int) by omega), Bool.not_false, gd_true, (slot_at hs hl hb hrl).1, bind_some']
    rw [decide_eq_false (show ¬ (S.getD r d0).1 = t from fun he => ht (List.mem_map.2 ⟨_, getD_mem hrl, he⟩))]; rfl
theorem Get_at {k : Nat} (hk : k < S.length) : pack_Pack_Get (head, arc S) (S.getD k d0).1 = some ((S.getD k d0).2, true) := by
  have hsl := (arc_len S).2
  obtain ⟨r, hr, h1, h2, h3⟩ := Search_go (head := head) hs hl hb (S.getD k d0).1 S.length 0 S.length (by omega) (by omega) (Nat.le_refl _) (fun y hy => by omega) (fun y hy hy2 => by omega)
  have hr : sort_Search_Get_1 (S.length : Int) (head, arc S) (S.getD k d0).1 = some (r : Int) := hr
  have e : r = k := by
    rcases Nat.lt_trichotomy r k with h | h | h
    · have := h3 r (Nat.le_refl _) (by omega)
      rw [hs.at_ h hk] at this; cases this
    · exact h
    · have := h2 k h
      rw [wkT.ir] at this; cases this
  subst e
  have hbk := hb _ (getD_mem (d := d0) hk)
  obtain ⟨s1, s2⟩ := slot_at hs hl hb hk
  unfold pack_Pack_Get
  dsimp only
  rw [hsl, hr, bind_some', decide_eq_false (show ¬ (r : Int) = (S.length : Int) by omega), Bool.not_false, gd_true, s1, bind_some', decide_eq_true rfl]
  simp only [Bool.not_true, Bool.or_self, bind_some', Bool.false_eq_true, if_false]
  rw [s2, bind_some', clone_eq (by omega)]; rfl
def wfS (t : T3) (a : ByteArray × Bool) (e : Ent) : ByteArray × Bool := if e.1 = t then (bsS e.2, true) else a
theorem alike_eq (hu : ∀ e ∈ S, ∀ x ∈ e.2, U8 x) (hh : head.length ≤ 1000000) (t : T3) : law27_alike (head, arc S) (bsS head, S.map ofE) t = some true := by
  have hsl := (arc_len S).2
  have hml : ((S.map ofE).length : Int) = (S.length : Int) := by simp
  have hmd : (((dd S).map bsS).length : Int) = ((dd S).length : Int) := by simp
  have fin : ∃ g : List Int × Bool, pack_Pack_Get (head, arc S) t = some g ∧ eqS (bsS g.1) (S.foldl (wfS t) (ByteArray.empty, false)).1 = true ∧ g.2 = (S.foldl (wfS t) (ByteArray.empty, false)).2 := by
    have no : ∀ (S : List Ent) (a : ByteArray × Bool), t ∉ S.map (·.1) → S.foldl (wfS t) a = a := by
      intro S
      induction S with
      | nil => intro a _; rfl
      | cons e r ih =>
        intro a hn
        rw [List.map_cons, List.mem_cons, not_or] at hn
        rw [List.foldl_cons, ih _ hn.2]
        exact if_neg fun he => hn.1 he.symm
    by_cases ht : t ∈ S.map (·.1)
    · obtain ⟨e, he, et⟩ := List.mem_map.1 ht
      obtain ⟨k, hk, rfl⟩ := mem_getD (d := d0) he
      refine ⟨_, by rw [← et]; exact Get_at hs hl hb hk, ?_⟩
      have e1 : S.foldl (wfS t) (ByteArray.empty, false) = (bsS (S.getD k d0).2, true) := by
        conv => lhs; rw [← List.take_append_drop (k + 1) S]
        rw [List.foldl_append, foldl_snoc _ _ _ d0 hk, no _ _ (fun hm => ?_)]
        · exact if_pos et
        · obtain ⟨y, hy, hy2⟩ := List.mem_map.1 hm
          obtain ⟨j, hj, rfl⟩ := mem_getD (d := d0) hy
          rw [getD_drop] at hy2
          have := hs.at_ (show k < k + 1 + j by omega) (by simp at hj; omega)
          rw [hy2, et, wkT.ir] at this
          cases this
      rw [e1]
      exact ⟨eqS_self _, rfl⟩
    · refine ⟨_, Get_no hs hl hb ht, ?_⟩
      rw [no S _ ht]
      exact ⟨eqS_self _, rfl⟩
  obtain ⟨g, hg, g1, g2⟩ := fin
  unfold law27_alike
  dsimp only
  rw [Entries_eq hs hl hb, bind_some', hg, bind_some', hml, decide_eq_true rfl, show pack_Pack_Len (head, arc S) = some (S.length : Int) from congrArg (fun n : Nat => some (n : Int)) hsl]
  simp only [Bool.not_true, Bool.not_false, gd_true, bind_some', decide_true, Bool.or_self]
  rw [show pack_Pack_Blobs (head, arc S) = some ((dd S).length : Int) from by unfold pack_Pack_Blobs; rw [dd_arc], bind_some', Blobs_eq hu (by omega), bind_some', hmd, decide_eq_true rfl]
  simp only [Bool.not_true, Bool.not_false, gd_true, bind_some', Bool.or_self]
  rw [show pack_Pack_Head (head, arc S) = some head from by unfold pack_Pack_Head; rw [clone_eq (b := head) (by omega)]; rfl, bind_some', eqS_self]
  simp only [Bool.not_true, Bool.or_self, Bool.false_eq_true, if_false]
  have := loopO_nat (body := fun (s : ByteArray × Bool × Int) => law27_alike_b1 (head, arc S) (bsS head, S.map ofE) t S g s.1 s.2.1 s.2.2) (fun k => (((S.take k).foldl (wfS t) (ByteArray.empty, false)).1, ((S.take k).foldl (wfS t) (ByteArray.empty, false)).2, (k : Int))) S.length true (fun k hk => by
    show law27_alike_b1 _ _ t S g _ _ (k : Int) = _
    have hf : (S.take (k + 1)).foldl (wfS t) (ByteArray.empty, false) = wfS t ((S.take k).foldl (wfS t) (ByteArray.empty, false)) (S.getD k d0) := foldl_snoc _ _ _ d0 hk
    have k2 : ∀ w h, law27_alike_k2 (head, arc S) (bsS head, S.map ofE) S (k : Int) w h = some (.inl (w, h, ((k + 1 : Nat) : Int))) := fun w h => by
      unfold law27_alike_k2
      dsimp only
      rw [ix_getD d0 hk, bind_some', Get_at hs hl hb hk, bind_some', ix_getD dr (by simpa using hk), getD_map' ofE S d0 dr hk]
      show (if ((!true) || (!eqS (bsS (S.getD k d0).2) (bsS (S.getD k d0).2))) = true then _ else _) = _
      rw [eqS_self, ad_one (by omega)]; rfl
    unfold law27_alike_b1
    dsimp only
    rw [dlt hk, if_pos rfl, ix_getD d0 hk, bind_some', ix_getD dr (by simpa using hk), getD_map' ofE S d0 dr hk, bind_some', show decide ((S.getD k d0).1 = (ofE (S.getD k d0)).1) = true from decide_eq_true rfl]
    simp only [Bool.not_true, Bool.not_false, gd_true, bind_some', Bool.false_or]
    rw [show eqS (bsS (S.getD k d0).2) (ofE (S.getD k d0)).2 = true from eqS_self _]
    simp only [Bool.not_true, Bool.false_eq_true, if_false, k2]
    show (if decide ((S.getD k d0).1 = t) = true then _ else _) = _
    rw [hf]
    unfold wfS
    by_cases he : (S.getD k d0).1 = t
    · rw [decide_eq_true he, if_pos rfl, if_pos he]; rfl
    · rw [decide_eq_false he, if_neg (by decide), if_neg he]) (by
    show law27_alike_b1 _ _ t S g _ _ (S.length : Int) = _
    unfold law27_alike_b1
    rw [dnlt (Nat.lt_irrefl _), if_neg (by decide), take_all, g1, g2]
    simp)
  exact this
end
end Go.Proofs.Ytnmkonlfnpcoiaa.Pl
