import Derived.Test.YtnmkonlfnpcoiaaP27mo
namespace Go.Proofs.Ytnmkonlfnpcoiaa.Pl
open Go.Proofs.Ytnmkonlfnpcoiaa
set_option maxRecDepth 8000
def ddS (acc : List (List Int)) (e : Ent) : List (List Int) := if e.2 ∈ acc then acc else acc ++ [e.2]
def dd (l : List Ent) : List (List Int) := l.foldl ddS []
theorem dd_arc (S : List Ent) : (arc S).1 = dd S := by
  have : ∀ (S : List Ent) (s : List (List Int) × List (T3 × Int)), (S.foldl stB s).1 = S.foldl ddS s.1 := by
    intro S
    induction S with
    | nil => intro s; rfl
    | cons e r ih =>
      intro s
      rw [List.foldl_cons, List.foldl_cons, ih]
      congr 1
      unfold stB ddS
      split <;> rfl
  exact this S ([], [])
theorem dd_mem (l : List Ent) : ∀ x, x ∈ dd l ↔ x ∈ l.map (·.2) := by
  have : ∀ (l : List Ent) (acc : List (List Int)) (x : List Int), x ∈ l.foldl ddS acc ↔ x ∈ acc ∨ x ∈ l.map (·.2) := by
    intro l
    induction l with
    | nil => intro acc x; simp
    | cons e r ih =>
      intro acc x
      rw [List.foldl_cons, ih]
      unfold ddS
      split
      · rename_i h
        simp only [List.map_cons, List.mem_cons]
        constructor
        · rintro (h1 | h1)
          · exact .inl h1
          · exact .inr (.inr h1)
        · rintro (h1 | h1 | h1)
          · exact .inl h1
          · subst h1; exact .inl h
          · exact .inr h1
      · simp only [List.mem_append, List.mem_singleton, List.map_cons, List.mem_cons, or_assoc, List.not_mem_nil, false_or]
  intro x
  simpa [dd] using this l [] x
theorem dd_nodup (l : List Ent) : (dd l).Nodup := by
  rw [← dd_arc]; exact arc_nodup l ([], []) (by simp)
theorem dd_perm {l m : List Ent} (h : m.Perm l) : (dd m).length = (dd l).length := by
  refine List.Perm.length_eq ((List.perm_ext_iff_of_nodup (dd_nodup m) (dd_nodup l)).2 fun x => ?_)
  rw [dd_mem, dd_mem, (h.map _).mem_iff]
theorem dd_snoc (l : List Ent) (e : Ent) : (dd (l ++ [e])).length = (dd l).length + if e.2 ∈ l.map (·.2) then 0 else 1 := by
  have h : dd (l ++ [e]) = ddS (dd l) e := by unfold dd; rw [List.foldl_append]; rfl
  rw [h]
  unfold ddS
  by_cases hc : e.2 ∈ l.map (·.2)
  · rw [if_pos hc, if_pos ((dd_mem l e.2).2 hc)]; rfl
  · rw [if_neg hc, if_neg (fun hh => hc ((dd_mem l e.2).1 hh))]; simp
theorem eqB {a b : List Int} (ha : ∀ x ∈ a, U8 x) (hb : ∀ x ∈ b, U8 x) : eqS (bsS a) (bsS b) = decide (a = b) := by
  rw [eqS_eq]
  by_cases h : a = b
  · rw [h]; simp
  · rw [decide_eq_false h, decide_eq_false]
    exact fun hh => h (bsS_inj ha hb hh)
abbrev d0 : Ent := ((0, 0, 0), [])
theorem cuts_l7 {l : List Ent} (hu : ∀ e ∈ l, ∀ x ∈ e.2, U8 x) (hl : l.length < 1000) (n i : Nat) (hi : i < l.length) (hn : n < 1000) :
    law27_PackCuts_l7 l (n : Int) (i : Int) (true, 0) = some (.inl (((n + if (l.getD i d0).2 ∈ (l.take i).map (·.2) then 0 else 1 : Nat) : Int), ((i + 1 : Nat) : Int))) := by
  refine loopO_nat (body := fun s => law27_PackCuts_b7 l (n : Int) (i : Int) s.1 s.2) (fun j => (decide ((l.getD i d0).2 ∉ (l.take j).map (·.2)), (j : Int))) i _ (fun j hj => ?_) ?_
  · show law27_PackCuts_b7 l (n : Int) (i : Int) _ (j : Int) = _
    unfold law27_PackCuts_b7
    rw [dlt hj, if_pos rfl]
    have e1 : (l.take (j + 1)).map (·.2) = (l.take j).map (·.2) ++ [(l.getD j d0).2] := map_snoc (·.2) l d0 (by omega)
    by_cases hc : (l.getD i d0).2 ∉ (l.take j).map (·.2)
    · rw [decide_eq_true hc, gd_true, gd_true, ix_getD d0 (by omega), bind_some', ix_getD d0 hi, bind_some', eqB (fun x hx => hu _ (getD_mem (by omega)) x hx) (fun x hx => hu _ (getD_mem hi) x hx), bind_some', ad_one (by omega), Bool.true_and, e1]
      congr 3
      by_cases hq : (l.getD j d0).2 = (l.getD i d0).2
      · rw [hq]; simp
      · rw [decide_eq_false hq, Bool.not_false, decide_eq_true]
        rw [List.mem_append, not_or]
        exact ⟨hc, fun h => hq (List.mem_singleton.1 h).symm⟩
    · rw [decide_eq_false hc, gd_false, gd_false, bind_some', bind_some', bind_some', Bool.false_and, ad_one (by omega), e1]
      congr 3
      rw [decide_eq_false]
      simp only [Classical.not_not] at hc
      rw [List.mem_append, Classical.not_not]
      exact .inl hc
  · show law27_PackCuts_b7 l (n : Int) (i : Int) _ (i : Int) = _
    unfold law27_PackCuts_b7 law27_PackCuts_k6
    rw [dnlt (Nat.lt_irrefl _), if_neg (by decide)]
    by_cases hc : (l.getD i d0).2 ∈ (l.take i).map (·.2)
    · rw [decide_eq_false (by simpa using hc), if_pos hc]
      show Option.map Sum.inr (if false = true then _ else some (Sum.inl ((n : Int), ad (i : Int) 1))) = _
      rw [if_neg (by decide), ad_one (by omega)]; rfl
    · rw [decide_eq_true hc, if_neg hc, ad_one (by omega), ad_one (by omega)]; rfl
theorem cuts_l5 {l : List Ent} (hu : ∀ e ∈ l, ∀ x ∈ e.2, U8 x) (hl : l.length < 900) (A : ((List Int) × (List (List Int)) × (List (T3 × Int))) × Int) (h1 : A.1.2.1.length = (dd l).length) (h2 : A.1.2.2.length = l.length) :
    law27_PackCuts_l5 l A (0, 0) = some true := by
  have hdl : ∀ i, (dd (l.take i)).length ≤ i := by
    intro i
    rw [← dd_arc]
    have := (arc_len (l.take i)).1
    simp only [List.length_take] at this
    omega
  refine loopO_nat (body := fun s => law27_PackCuts_b5 l A s.1 s.2) (fun i => (((dd (l.take i)).length : Int), (i : Int))) l.length true (fun i hi => ?_) ?_
  · show law27_PackCuts_b5 l A _ (i : Int) = _
    unfold law27_PackCuts_b5
    have := hdl i
    rw [dlt hi, if_pos rfl, cuts_l7 hu (by omega) _ i hi (by omega), snoc_take d0 hi, dd_snoc]
  · show law27_PackCuts_b5 l A _ (l.length : Int) = _
    unfold law27_PackCuts_b5 pack_Pack_Blobs pack_Pack_Len
    rw [dnlt (Nat.lt_irrefl _), if_neg (by decide), known27, take_all, h1, h2]
    simp
theorem bytesA_u8 {head : List Int} {l : List Ent} (hh : ∀ x ∈ head, U8 x) (hu : ∀ e ∈ l, ∀ x ∈ e.2, U8 x) : ∀ x ∈ bytesA head (arc (isort ltE l)), U8 x := by
  have v : ∀ n, ∀ x ∈ vb n, U8 x := fun n => vbF_u8 10 n
  intro x hx
  unfold bytesA wB at hx
  simp only [List.mem_append, List.mem_flatMap] at hx
  rcases hx with ((((h | h) | h) | ⟨b, hb, h⟩) | h) | ⟨s, hs, h⟩
  · simp only [List.mem_cons, List.not_mem_nil, or_false] at h
    rcases h with rfl | rfl | rfl | rfl <;> (unfold U8; omega)
  · rcases h with h | h
    · exact v _ x h
    · exact hh x h
  · exact v _ x h
  · rcases h with h | h
    · exact v _ x h
    · obtain ⟨e, he, rfl⟩ := (arc_mem (isort ltE l)).1 b hb
      exact hu e ((isort_perm l).mem_iff.1 he) x h
  · exact v _ x h
  · unfold slB at h
    simp only [List.mem_append] at h
    rcases h with ((h | h) | h) | h <;> exact v _ x h
theorem bytesA_len {head : List Int} {l : List Ent} (hl : l.length < 128) (hh : head.length ≤ 1000) (hb : ∀ e ∈ l, e.2.length ≤ 1000) : (bytesA head (arc (isort ltE l))).length ≤ 200000 ∧ 4 < (bytesA head (arc (isort ltE l))).length := by
  have ha := arc_len (isort ltE l)
  rw [isort_len] at ha
  have f1 := flat_len wB 1010 (arc (isort ltE l)).1 (fun b hb' => by
    obtain ⟨e, he, rfl⟩ := (arc_mem (isort ltE l)).1 b hb'
    have := hb e ((isort_perm l).mem_iff.1 he)
    have := wB_len e.2
    omega)
  have f2 := flat_len slB 40 (arc (isort ltE l)).2 (fun s _ => slB_len s)
  have f3 := wB_len head
  have f4 := vb_len (arc (isort ltE l)).1.length
  have f5 := vb_len (arc (isort ltE l)).2.length
  have f6 := vb_pos (arc (isort ltE l)).2.length
  simp only [bytesA, List.length_append, List.length_cons, List.length_nil]
  omega
theorem bytesA_take (head : List Int) (A : List (List Int) × List (T3 × Int)) {k : Nat} (hk : 4 ≤ k) (more : List Int) : (((bytesA head A).take k) ++ more).take 4 = [71, 82, 84, 49] := by
  have e : (bytesA head A).take k = [71, 82, 84, 49] ++ (cat (toksA head A)).take (k - 4) := by
    rw [bytes_cat, List.take_append, List.take_of_length_le (by simpa using hk)]; rfl
  rw [e, List.append_assoc]
  rfl
section
variable {head : List Int} {l : List Ent} (h0 : chk [] l = 0) (hl : l.length < 128) (hh : head.length ≤ 1000) (hb : ∀ e ∈ l, e.2.length ≤ 1000) (hh8 : ∀ x ∈ head, U8 x) (hu : ∀ e ∈ l, ∀ x ∈ e.2, U8 x)
include h0 hl hh hb hh8 hu
set_option linter.unusedSectionVars false
theorem open_full : pack_Open (bytesA head (arc (isort ltE l))) = some (.inl ((head, arc (isort ltE l)), 0)) := by
  have hlen := bytesA_len hl hh hb
  have hr := run_more (head := head) h0 hl (by omega) (fun e he => by have := hb e he; omega) []
  rw [List.append_nil] at hr
  have ht : (bytesA head (arc (isort ltE l))).take 4 = [71, 82, 84, 49] := by
    have := bytesA_take head (arc (isort ltE l)) (k := 4) (Nat.le_refl _) []
    rw [List.append_nil, List.take_take] at this
    exact this
  rw [Open_eq (bytesA_u8 hh8 hu) (by omega), if_pos ht, hr]
  show (if (bytesA head (arc (isort ltE l))).length < (bytesA head (arc (isort ltE l))).length then badO 3 else _) = _
  rw [if_neg (Nat.lt_irrefl _)]
theorem open_more {m : Int} (hm : U8 m) : pack_Open (bytesA head (arc (isort ltE l)) ++ [m]) = some (.inr ((), 3)) := by
  have hlen := bytesA_len hl hh hb
  have hr := run_more (head := head) h0 hl (by omega) (fun e he => by have := hb e he; omega) [m]
  have ht : (bytesA head (arc (isort ltE l)) ++ [m]).take 4 = [71, 82, 84, 49] := by
    have := bytesA_take head (arc (isort ltE l)) (k := (bytesA head (arc (isort ltE l))).length) (by omega) [m]
    rw [List.take_length] at this
    exact this
  rw [Open_eq (fun x hx => by
    rcases List.mem_append.1 hx with hx | hx
    · exact bytesA_u8 hh8 hu x hx
    · rw [List.mem_singleton] at hx; subst hx; exact hm) (by rw [List.length_append]; simp; omega), if_pos ht, hr]
  show (if (bytesA head (arc (isort ltE l))).length < (bytesA head (arc (isort ltE l)) ++ [m]).length then badO 3 else _) = _
  rw [if_pos (by simp)]; rfl
theorem open_cut {k : Nat} (hk : k < (bytesA head (arc (isort ltE l))).length) : pack_Open ((bytesA head (arc (isort ltE l))).take k) = some (.inr ((), if k < 4 then 17 else 4)) := by
  have hlen := bytesA_len hl hh hb
  rw [Open_eq (fun x hx => bytesA_u8 hh8 hu x (List.mem_of_mem_take hx)) (by rw [List.length_take]; omega)]
  by_cases h4 : k < 4
  · rw [if_pos h4, if_neg (fun he => by
      have := congrArg List.length he
      simp at this
      omega)]
    rfl
  · rw [if_neg h4]
    have ht : ((bytesA head (arc (isort ltE l))).take k).take 4 = [71, 82, 84, 49] := by
      have := bytesA_take head (arc (isort ltE l)) (k := k) (by omega) []
      rw [List.append_nil] at this
      exact this
    rw [if_pos ht, run_cut h0 hl (by omega) (fun e he => by have := hb e he; omega) (by omega) hk]
    rfl
end
theorem law27_PackCuts_true (x0 : List Int) (x1 : List ((Int × Int × Int) × (List Int))) (x2 : Int) (x3 : Int) (k0 : ∀ y5 ∈ x0, U8 y5) (k1 : ∀ y6 ∈ x1, (I64 y6.1.1 ∧ I64 y6.1.2.1 ∧ I64 y6.1.2.2) ∧ (∀ y7 ∈ y6.2, U8 y7)) (k2 : I64 x2) (k3 : U8 x3) : law27_PackCuts x0 x1 x2 x3 = some true := by
  unfold law27_PackCuts
  have hc := cutE_u8 (l := x1) (fun e he => (k1 e he).2)
  rw [show (30 : Int) = ((30 : Nat) : Int) from rfl, cut_mn, bind_some', Cut_eq, bind_some']
  generalize (x1.take 20).map cutE = l at hc
  obtain ⟨hu, hl, hb⟩ := hc
  have hh8 : ∀ x ∈ x0.take 30, U8 x := fun x hx => k0 x (List.mem_of_mem_take hx)
  have hh : (x0.take 30).length ≤ 30 := by simp; omega
  generalize x0.take 30 = head at hh8 hh
  rw [write_eq hu (by omega) (by omega) (fun e he => by have := hb e he; omega), bind_some']
  by_cases h0 : chk [] l = 0
  · rw [if_pos h0]
    simp only [decide_true, Bool.not_true, Bool.false_eq_true, if_false]
    have hlen := bytesA_len (head := head) (l := l) (by omega) (by omega) (fun e he => by have := hb e he; omega)
    have hb' : ∀ e ∈ l, e.2.length ≤ 1000 := fun e he => by have := hb e he; omega
    have o1 := open_full h0 (by omega) (by omega) hb' hh8 hu
    have o2 := open_more h0 (by omega) (by omega) hb' hh8 hu k3
    have o3 : ∀ k, k < (bytesA head (arc (isort ltE l))).length → _ := fun k hk => open_cut h0 (by omega) (by omega) hb' hh8 hu hk
    have hdd : (arc (isort ltE l)).1.length = (dd l).length := by rw [dd_arc]; exact dd_perm (isort_perm l)
    have hsl : (arc (isort ltE l)).2.length = l.length := by rw [(arc_len _).2, isort_len]
    generalize bytesA head (arc (isort ltE l)) = b at hlen o1 o2 o3
    rw [show decide ((b.length : Int) = 0) = false from by simp only [decide_eq_false_iff_not]; omega]
    simp only [Bool.false_eq_true, if_false]
    obtain ⟨k, hk, e⟩ := rm_mod x2 b.length (by omega)
    have wk : IntKind.i64.wrap (k : Int) = (k : Int) := IntWalk.i64_in _ (by omega)
    rw [show IntKind.u64.wrap (b.length : Int) = (b.length : Int) from IntWalk.u64_in _ (by omega), bind_some', e, bind_some', wk, cut_to (by omega), bind_some', o3 k hk, rngO_inr]
    have fin : ∀ w : Int, law27_PackCuts_k1 x3 l (b, 0) ((), w) w = some true := by
      intro w
      unfold law27_PackCuts_k1
      rw [app_le (by simp; omega), bind_some', List.nil_append, app_le (by simp; omega), bind_some', o2, rngO_inr]
      dsimp only
      rw [o1, rngO_inl]
      simp only [decide_true, Bool.not_true, Bool.or_self, bind_some', Bool.false_eq_true, if_false]
      exact cuts_l5 hu (by omega) _ hdd hsl
    by_cases h4 : k < 4
    · rw [if_pos h4, show decide ((k : Int) < 4) = true from by simp only [decide_eq_true_eq]; omega, if_pos rfl]
      exact fin 17
    · rw [if_neg h4, show decide ((k : Int) < 4) = false from by simp only [decide_eq_false_iff_not]; omega]
      exact fin 4
  · rw [if_neg h0, show (!decide (chk [] l = 0)) = true from by simpa using h0, if_pos rfl, known27]
    rfl
end Go.Proofs.Ytnmkonlfnpcoiaa.Pl
