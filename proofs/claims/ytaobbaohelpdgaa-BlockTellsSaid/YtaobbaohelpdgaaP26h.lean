import Derived.Test.YtaobbaohelpdgaaP26g
namespace Go.Proofs.Ytaobbaohelpdgaa.Pl
set_option maxRecDepth 4000
theorem cut_mn {α : Type} (l : List α) (k : Nat) : cut l 0 (mn (l.length : Int) (k : Int)) = some (l.take k) := by
  by_cases h : k ≤ l.length
  · rw [show mn (l.length : Int) (k : Int) = (k : Int) by unfold mn; omega]; exact cut_to h
  · rw [show mn (l.length : Int) (k : Int) = (l.length : Int) by unfold mn; omega, cut_to (Nat.le_refl _), List.take_of_length_le (by omega), List.take_of_length_le (by omega)]
theorem map_snoc {α β : Type} (f : α → β) (l : List α) {k : Nat} (d : α) (h : k < l.length) : (l.take (k + 1)).map f = (l.take k).map f ++ [f (l.getD k d)] := by
  rw [snoc_take d h, List.map_append]; rfl
theorem take_min {α : Type} (l : List α) (k : Nat) : l.take (min l.length k) = l.take k := by
  by_cases h : k ≤ l.length
  · rw [Nat.min_eq_right h]
  · rw [Nat.min_eq_left (by omega), List.take_of_length_le (Nat.le_refl _), List.take_of_length_le (by omega)]
def cutArc (a : ArcT) : ArcT := (a.1.take 20, a.2.1, a.2.2)
def cutRing (q : List Int) : List Int := q.take 8
def cutFace (r : List (List Int)) : List (List Int) := (r.take 5).map cutRing
def cutN (n : NetP) : NetP := ((n.1.take 10).map cutArc, (n.2.take 6).map cutFace)
theorem Cut14_eq (l : List ArcT) : law14_Cut l = some ((l.take 10).map cutArc) := by
  have := loopO_nat (body := fun s => law14_Cut_b1 l s.1 s.2) (fun k => ((l.take k).map cutArc, (k : Int))) (min l.length 10) ((l.take 10).map cutArc) (fun k hk => by
    show law14_Cut_b1 _ _ _ = _
    unfold law14_Cut_b1
    have hk1 : k < l.length := by omega
    rw [dlt hk1, show decide ((k : Int) < 10) = true from decide_eq_true (by omega), bind_some', Bool.and_self, if_pos rfl, ix_getD ([], 0, 0) hk1, bind_some', show (20 : Int) = ((20 : Nat) : Int) from rfl, cut_mn, bind_some', app_le (by simp only [List.length_map, List.length_take, List.length_cons, List.length_nil]; omega), bind_some', ad_one (by omega), map_snoc cutArc l ([], 0, 0) hk1]; rfl) (by
    show law14_Cut_b1 _ _ _ = _
    unfold law14_Cut_b1
    have : (decide (((min l.length 10 : Nat) : Int) < (l.length : Int)) && decide (((min l.length 10 : Nat) : Int) < 10)) = false := by
      rw [Bool.and_eq_false_iff, decide_eq_false_iff_not, decide_eq_false_iff_not]; omega
    rw [this, bind_some', if_neg (by decide), take_min]; rfl)
  exact this
theorem Cut_eq (n : NetP) : law15_Cut n = some (cutN n) := by
  unfold law15_Cut
  rw [Cut14_eq, bind_some']
  have hin : ∀ (out : List (List (List Int))) (i : Nat), i < n.2.length → out.length ≤ 100 → i ≤ 100 → law15_Cut_l2 n out (i : Int) (([] : List (List Int)), 0) = some (.inl (out ++ [cutFace (n.2.getD i [])], ((i + 1 : Nat) : Int))) := fun out i hi ho hi2 => by
    generalize er : n.2.getD i [] = r
    have := loopO_nat (body := fun s => law15_Cut_b2 n out (i : Int) s.1 s.2) (fun k => ((r.take k).map cutRing, (k : Int))) (min r.length 5) (.inl (out ++ [cutFace r], ((i + 1 : Nat) : Int))) (fun k hk => by
      show law15_Cut_b2 _ _ _ _ _ = _
      unfold law15_Cut_b2
      have hk1 : k < r.length := by omega
      rw [ix_getD [] hi, er, bind_some', dlt hk1, show decide ((k : Int) < 5) = true from decide_eq_true (by omega), bind_some', Bool.and_self, if_pos rfl, bind_some', ix_getD [] hk1, bind_some', show (8 : Int) = ((8 : Nat) : Int) from rfl, cut_mn, bind_some', app_le (by simp only [List.length_take, List.length_nil]; omega), bind_some', app_le (by simp only [List.length_map, List.length_take, List.length_cons, List.length_nil]; omega), bind_some', ad_one (by omega), map_snoc cutRing r [] hk1]; rfl) (by
      show law15_Cut_b2 _ _ _ _ _ = _
      unfold law15_Cut_b2
      have : (decide (((min r.length 5 : Nat) : Int) < (r.length : Int)) && decide (((min r.length 5 : Nat) : Int) < 5)) = false := by
        rw [Bool.and_eq_false_iff, decide_eq_false_iff_not, decide_eq_false_iff_not]; omega
      rw [ix_getD [] hi, er, bind_some', this, bind_some', if_neg (by decide), take_min, app_le (by simp only [List.length_cons, List.length_nil]; omega), bind_some', ad_one (by omega)]; rfl)
    exact this
  have := loopO_nat (body := fun s => law15_Cut_b1 n ((n.1.take 10).map cutArc) s.1 s.2) (fun k => ((n.2.take k).map cutFace, (k : Int))) (min n.2.length 6) (cutN n) (fun k hk => by
    show law15_Cut_b1 _ _ _ _ = _
    unfold law15_Cut_b1
    have hk1 : k < n.2.length := by omega
    rw [dlt hk1, show decide ((k : Int) < 6) = true from decide_eq_true (by omega), bind_some', Bool.and_self, if_pos rfl, hin _ k hk1 (by simp only [List.length_map, List.length_take]; omega) (by omega), map_snoc cutFace n.2 [] hk1]) (by
    show law15_Cut_b1 _ _ _ _ = _
    unfold law15_Cut_b1
    have : (decide (((min n.2.length 6 : Nat) : Int) < (n.2.length : Int)) && decide (((min n.2.length 6 : Nat) : Int) < 6)) = false := by
      rw [Bool.and_eq_false_iff, decide_eq_false_iff_not, decide_eq_false_iff_not]; omega
    rw [this, bind_some', if_neg (by decide), take_min]; rfl)
  exact this
theorem sum_bnd {α : Type} (f : α → Nat) (c : Nat) : ∀ (l : List α), (∀ x ∈ l, f x ≤ c) → (l.map f).sum ≤ c * l.length
  | [], _ => by simp
  | x :: l, h => by
    have := sum_bnd f c l fun y hy => h y (by simp [hy])
    have := h x (by simp)
    simp only [List.map_cons, List.sum_cons, List.length_cons, Nat.mul_add]; omega
theorem cut_small (n : NetP) : (cutN n).1.length ≤ 10 ∧ (cutN n).2.length ≤ 6 ∧ pointsN (cutN n) ≤ 200 ∧ ringsN (cutN n).2 ≤ 30 ∧ refsNN (cutN n).2 ≤ 240 := by
  have h1 : (cutN n).1.length ≤ 10 := by unfold cutN; simp only [List.length_map, List.length_take]; omega
  have h2 : (cutN n).2.length ≤ 6 := by unfold cutN; simp only [List.length_map, List.length_take]; omega
  refine ⟨h1, h2, ?_, ?_, ?_⟩
  · have : pointsN (cutN n) ≤ 20 * (cutN n).1.length := sum_bnd _ 20 _ fun a ha => by
      obtain ⟨x, _, rfl⟩ := List.mem_map.1 ha
      unfold cutArc; simp only [List.length_take]; omega
    omega
  · have : ringsN (cutN n).2 ≤ 5 * (cutN n).2.length := sum_bnd _ 5 _ fun a ha => by
      obtain ⟨x, _, rfl⟩ := List.mem_map.1 ha
      unfold cutFace; simp only [List.length_map, List.length_take]; omega
    omega
  · have : refsNN (cutN n).2 ≤ 40 * (cutN n).2.length := sum_bnd _ 40 _ fun a ha => by
      obtain ⟨x, _, rfl⟩ := List.mem_map.1 ha
      have h3 : (cutFace x).length ≤ 5 := by unfold cutFace; simp only [List.length_map, List.length_take]; omega
      have : refsN (cutFace x) ≤ 8 * (cutFace x).length := sum_bnd _ 8 _ fun b hb => by
        obtain ⟨y, _, rfl⟩ := List.mem_map.1 hb
        unfold cutRing; simp only [List.length_take]; omega
      omega
    omega
theorem cut_fits (n : NetP) : Fits (cutN n) := by
  obtain ⟨h1, h2, h3, h4, h5⟩ := cut_small n
  exact ⟨by omega, by omega, by omega, by omega, by omega⟩
theorem bytes_len (n : NetP) : (bytesP n).length ≤ 20 + 30 * n.1.length + 20 * pointsN n + 10 * n.2.length + 10 * ringsN n.2 + 10 * refsNN n.2 := by
  have h1 := faces_len n.2 ((arcsB n).1 ++ vb n.2.length)
  have h2 : (n.1.foldl stepArc (vb n.1.length, (0, 0))).1.length ≤ (vb n.1.length).length + (30 * n.1.length + 20 * pointsN n) := arcs_len n.1 (vb n.1.length, (0, 0))
  have h3 : (arcsB n).1.length = (n.1.foldl stepArc (vb n.1.length, (0, 0))).1.length := rfl
  have := vb_len n.1.length
  have := vb_len n.2.length
  rw [List.length_append] at h1
  unfold bytesP
  omega
theorem cut_blen (n : NetP) : (bytesP (cutN n)).length ≤ 10000 := by
  have := bytes_len (cutN n)
  obtain ⟨h1, h2, h3, h4, h5⟩ := cut_small n
  omega
theorem eqf {α : Type} [DecidableEq α] (d : α) (s1 s2 : List α) (hl : s1.length < 1000000000) (f : α → α → Option Bool) (hf : ∀ x ∈ s1, ∀ y, f x y = some (decide (x = y))) : (if (!decide ((s1.length : Int) = (s2.length : Int))) then (some false) else loopO (fun i : Int => if (decide (i < (s1.length : Int))) then ((ix s1 i).bind fun x => (ix s2 i).bind fun y => (f x y).bind fun r => if (!r) then (Option.map Sum.inr (some false)) else (some (Sum.inl (ad i 1)))) else (Option.map Sum.inr (some true))) 0) = some (decide (s1 = s2)) := by
  by_cases he : s1.length = s2.length
  · rw [show (!decide ((s1.length : Int) = (s2.length : Int))) = false by simp [he], if_neg (by decide)]
    have := loopO_all (body := fun i : Int => if (decide (i < (s1.length : Int))) then ((ix s1 i).bind fun x => (ix s2 i).bind fun y => (f x y).bind fun r => if (!r) then (Option.map Sum.inr (some false)) else (some (Sum.inl (ad i 1)))) else (Option.map Sum.inr (some true))) (fun k => (k : Int)) s1.length (fun k => s1.getD k d = s2.getD k d) true false (fun k hk ho => by
      rw [dlt hk, if_pos rfl, ix_getD d hk, bind_some', ix_getD d (by omega), bind_some', hf _ (getD_mem hk), decide_eq_true ho, ad_one (by omega)]; rfl) (fun k hk ho => by
      rw [dlt hk, if_pos rfl, ix_getD d hk, bind_some', ix_getD d (by omega), bind_some', hf _ (getD_mem hk), decide_eq_false ho]; rfl) (by
      rw [dnlt (Nat.lt_irrefl _), if_neg (by decide)]; rfl)
    refine (show loopO _ (0 : Int) = _ from this).trans ?_
    congr 1
    rw [Bool.eq_iff_iff, decide_eq_true_iff]
    constructor
    · intro h
      split at h
      · rename_i h1; exact ext_getD d he h1
      · cases h
    · intro h
      subst h
      rw [if_pos fun _ _ => rfl]
  · rw [show (!decide ((s1.length : Int) = (s2.length : Int))) = true by simp; omega, if_pos rfl, decide_eq_false fun e => he (by rw [e])]
theorem PtSame_eq (a b : List Pt) (hl : a.length < 1000000000) : slices_Equal_api_Point_api_Point a b = some (decide (a = b)) :=
  eqf (0, 0) a b hl (fun x y => some (decide (x = y))) fun _ _ _ => rfl
theorem IntSame_eq (a b : List Int) (hl : a.length < 1000000000) : slices_Equal_int_int a b = some (decide (a = b)) :=
  eqf 0 a b hl (fun x y => some (decide (x = y))) fun _ _ _ => rfl
theorem RingSame_eq (a b : List (List Int)) (hl : a.length < 1000000000) (h2 : ∀ r ∈ a, r.length < 1000000000) : slices_EqualFunc_int_int_int_int_int a b = some (decide (a = b)) :=
  eqf [] a b hl slices_Equal_int_int fun x hx y => IntSame_eq x y (h2 x hx)
theorem arcSame_eq (a b : ArcT) (hl : a.1.length < 1000000000) : arcs_Same_1 a b = some (decide (a = b)) := by
  unfold arcs_Same_1
  rw [bind_some']
  obtain ⟨l, x, y⟩ := a
  obtain ⟨m, u, v⟩ := b
  dsimp only at hl ⊢
  by_cases h1 : x = u
  · by_cases h2 : y = v
    · rw [decide_eq_true h1, decide_eq_true h2]
      show (slices_Equal_api_Point_api_Point l m).bind _ = _
      rw [PtSame_eq l m hl, bind_some', Bool.and_self, Bool.true_and]
      congr 1
      rw [Bool.eq_iff_iff, decide_eq_true_iff, decide_eq_true_iff, Prod.mk.injEq, Prod.mk.injEq]
      exact ⟨fun h => ⟨h, h1, h2⟩, fun h => h.1⟩
    · rw [decide_eq_true h1, decide_eq_false h2, decide_eq_false (fun h => h2 (Prod.mk.inj (Prod.mk.inj h).2).2)]; rfl
  · rw [decide_eq_false h1, decide_eq_false (fun h => h1 (Prod.mk.inj (Prod.mk.inj h).2).1)]; rfl
theorem Same26_eq (a b : NetP) (h : Fits a) : net_Same a b = some (decide (a = b)) := by
  obtain ⟨A, F⟩ := a
  obtain ⟨B, G⟩ := b
  have e1 : arcs_Same A B = some (decide (A = B)) := by
    unfold arcs_Same
    rw [show slices_EqualFunc_arcs_Arc_arcs_Arc_arcs_Arc_arcs_Arc_Same_1 A B = _ from eqf ([], 0, 0) A B h.1 arcs_Same_1 (fun x hx y => arcSame_eq x y (by
      have : x.1.length ≤ pointsN (A, F) := le_sum (fun a : ArcT => a.1.length) A hx
      have := h.2.2.1
      omega)), bind_some']
  have e2 : slices_EqualFunc_int_int_int_int_Same_1 F G = some (decide (F = G)) :=
    eqf [] F G h.2.1 net_Same_1 (fun x hx y => by
      have hr := h.ring (l := x) hx
      unfold net_Same_1
      rw [RingSame_eq x y hr.1 hr.2, bind_some'])
  unfold net_Same
  rw [e1, bind_some']
  dsimp only
  by_cases h1 : A = B
  · rw [decide_eq_true h1]
    show (slices_EqualFunc_int_int_int_int_Same_1 F G).bind _ = _
    rw [e2, bind_some', Bool.true_and]
    congr 1
    rw [Bool.eq_iff_iff, decide_eq_true_iff, decide_eq_true_iff, Prod.mk.injEq]
    exact ⟨fun h => ⟨h1, h⟩, fun h => h.2⟩
  · rw [decide_eq_false h1, decide_eq_false (fun h => h1 (Prod.mk.inj h).1)]; rfl
theorem net_small {n : NetP} (h : checkP n = 0) : ∀ x ∈ numbers n, x < 18446744073709551616 := sm_net _ _ ((net_iff _ n).2 ⟨h, rfl⟩)
theorem run_more {n : NetP} (h : checkP n = 0) (more : List Int) : runA (bytesP n ++ more) netPr 0 = .inl (n, (bytesP n).length) := by
  have := runA_eat netPr (numbers n) n [] more ((net_iff _ n).2 ⟨h, rfl⟩) (net_small h)
  rw [List.nil_append, List.length_nil, Nat.zero_add] at this
  rw [bytes_cat]; exact this
theorem bytes_u8 (n : NetP) : ∀ x ∈ bytesP n, U8 x := by rw [bytes_cat]; exact cat_u8 _
end Go.Proofs.Ytaobbaohelpdgaa.Pl
