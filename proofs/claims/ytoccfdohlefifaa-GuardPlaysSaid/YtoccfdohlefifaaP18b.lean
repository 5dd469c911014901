import Derived.Test.YtoccfdohlefifaaP18a
namespace Go.Proofs.Ytoccfdohlefifaa.Pl
set_option maxRecDepth 4000
theorem build_snoc (x : Idx) (l : List Bx) {k : Nat} (h : k < l.length) : build x (l.take (k + 1)) = addB (build x (l.take k)) (l.getD k default) := by
  unfold build
  rw [snoc_take default h, List.foldl_append]; rfl
theorem Add_eq {x : Idx} {l : List Bx} (hx : Inv x l) (m : List Bx) (hn : l.length + m.length ≤ 1000) : rows_Index_Add x m = some (((build x m).1.length : Int), build x m) := by
  have := loopO_nat (body := fun s => rows_Index_Add_b1 m s.1 s.2.1 s.2.2.1 s.2.2.2) (fun k => ((build x (m.take k)).1, (build x (m.take k)).2.1, (build x (m.take k)).2.2, (k : Int))) m.length (((build x m).1.length : Int), build x m) (fun k hk => by
    dsimp only
    rw [build_snoc x m hk]
    have hI := hx.build (m.take k)
    generalize build x (m.take k) = y at hI ⊢
    generalize hb : m.getD k default = b
    have hl : y.1.length ≤ 1000 := by rw [hI.all, List.length_append, List.length_take]; omega
    have hgl : y.2.2.length ≤ 1000 := by have := hI.glen; rw [List.length_append, List.length_take] at this; omega
    have hfl : ∀ f, ((lkM y.2.1 f).getD []).length ≤ 64000 := fun f => by have := hI.flen f; rw [List.length_append, List.length_take] at this; omega
    unfold rows_Index_Add_b1
    rw [dlt hk, if_pos rfl, ix_getD default hk, hb, bind_some', app_le (by simp; omega), bind_some', rowsRight_eq, bind_some']
    unfold addB
    by_cases hr : RB b
    · rw [if_pos hr, decide_eq_true hr, if_neg (by decide), great_eq b hr, bind_some']
      by_cases hg : Great b
      · rw [if_pos hg, decide_eq_true hg, if_pos rfl, app_le (by simp; omega), bind_some']
        unfold rows_Index_Add_k2
        rw [ad_one (by omega)]
      · rw [if_neg hg, decide_eq_false hg, if_neg (by decide)]
        have he := each_eq (fun (sr : List (Pt × List Int)) (xr : Pt) => rows_Index_Add_b3 y.1 sr xr) (putF (y.1.length : Int)) (fun n D => ∀ f, ((lkM D f).getD []).length ≤ 64000 + n) b hr y.2.1 hfl (fun n s c hn' hP _ => by
          have h1 := hP c
          unfold Great at hg
          refine ⟨?_, fun f => ?_⟩
          · unfold rows_Index_Add_b3
            rw [app_le (by simp only [List.length_cons, List.length_nil]; omega)]; rfl
          · rw [putF_lk, List.length_append]
            have h2 := hP f
            have : (if f = c then [(y.1.length : Int)] else ([] : List Int)).length ≤ 1 := by split <;> simp
            omega)
        rw [he.1, rngO_inl]
        unfold rows_Index_Add_b4 rows_Index_Add_k2
        rw [ad_one (by omega)]
    · rw [if_neg hr, decide_eq_false hr, if_pos (by decide)]
      unfold rows_Index_Add_k2
      rw [ad_one (by omega)]) (by
    dsimp only
    unfold rows_Index_Add_b1
    rw [dnlt (Nat.lt_irrefl _), if_neg (by decide), List.take_length]; rfl)
  simpa [rows_Index_Add, rows_Index_Add_l1, build] using this
def ofL (l : List Bx) : Idx := build ([], [], []) l
theorem New_eq (l : List Bx) (h : l.length ≤ 1000) : rows_New l = some (ofL l) := by
  unfold rows_New
  rw [Add_eq Inv.nil l (by simpa using h)]; rfl
def fnd (l : List Bx) (b : Bx) : List Int := ((List.range l.length).filter fun i => decide (Mt b (l.getD i default))).map fun i => ((i : Nat) : Int)
theorem mem_fnd {l : List Bx} {b : Bx} {v : Int} : v ∈ fnd l b ↔ ∃ i : Nat, v = (i : Int) ∧ i < l.length ∧ Mt b (l.getD i default) := by
  unfold fnd
  simp only [List.mem_map, List.mem_filter, List.mem_range, decide_eq_true_eq]
  constructor
  · rintro ⟨i, ⟨h1, h2⟩, rfl⟩; exact ⟨i, rfl, h1, h2⟩
  · rintro ⟨i, rfl, h1, h2⟩; exact ⟨i, ⟨h1, h2⟩, rfl⟩
theorem fnd_up (l : List Bx) (b : Bx) : Up (fnd l b) := by
  unfold fnd Up
  rw [List.pairwise_map]
  refine List.Pairwise.imp (fun {a b} h => by omega) (List.Pairwise.filter _ List.pairwise_lt_range)
theorem fnd_len (l : List Bx) (b : Bx) : (fnd l b).length ≤ l.length := by
  unfold fnd
  rw [List.length_map]
  have := List.length_filter_le (fun i => decide (Mt b (l.getD i default))) (List.range l.length)
  rwa [List.length_range] at this
def atB (l : List Bx) (v : Int) : Bx := l.getD v.toNat default
def stepF (l : List Bx) (b : Bx) (s : List Int × List (Int × Bool)) (v : Int) : List Int × List (Int × Bool) :=
  if (lkM s.2 v).getD false = true ∨ ¬ Mt b (atB l v) then s else (s.1 ++ [v], upM s.2 v true)
def JF (s : List Int × List (Int × Bool)) : Prop := ∀ v, (lkM s.2 v).getD false = true → v ∈ s.1
theorem stepF_mem {l : List Bx} {b : Bx} {s : List Int × List (Int × Bool)} {v : Int} (h : JF s) : JF (stepF l b s v) ∧ (∀ u, u ∈ (stepF l b s v).1 ↔ u ∈ s.1 ∨ (u = v ∧ Mt b (atB l u))) ∧ (stepF l b s v).1.length ≤ s.1.length + 1 := by
  unfold stepF
  by_cases hc : (lkM s.2 v).getD false = true ∨ ¬ Mt b (atB l v)
  · rw [if_pos hc]
    refine ⟨h, fun u => ⟨.inl, fun h1 => h1.elim id ?_⟩, by omega⟩
    rintro ⟨rfl, h2⟩
    rcases hc with hc | hc
    · exact h u hc
    · exact (hc h2).elim
  · rw [if_neg hc]
    rw [not_or, Classical.not_not] at hc
    refine ⟨fun u hu => ?_, fun u => ?_, by simp⟩
    · simp only at hu ⊢
      rw [lk_up] at hu
      by_cases e : u = v
      · rw [e]; simp
      · rw [if_neg e] at hu
        exact List.mem_append_left _ (h u hu)
    · simp only [List.mem_append, List.mem_singleton]
      constructor
      · rintro (h1 | rfl)
        · exact .inl h1
        · exact .inr ⟨rfl, hc.2⟩
      · rintro (h1 | ⟨rfl, _⟩)
        · exact .inl h1
        · exact .inr rfl
theorem foldF_mem {l : List Bx} {b : Bx} : ∀ (m : List Int) (s : List Int × List (Int × Bool)), JF s → JF (m.foldl (stepF l b) s) ∧ (∀ u, u ∈ (m.foldl (stepF l b) s).1 ↔ u ∈ s.1 ∨ (u ∈ m ∧ Mt b (atB l u))) ∧ (m.foldl (stepF l b) s).1.length ≤ s.1.length + m.length
  | [], s, h => ⟨h, fun u => by simp, by simp⟩
  | v :: m, s, h => by
    obtain ⟨h1, h2, h3⟩ := stepF_mem (l := l) (b := b) (v := v) h
    obtain ⟨i1, i2, i3⟩ := foldF_mem m (stepF l b s v) h1
    refine ⟨i1, fun u => ?_, by simp only [List.foldl_cons, List.length_cons]; omega⟩
    rw [List.foldl_cons, i2, h2, List.mem_cons]
    constructor
    · rintro ((h | ⟨rfl, h⟩) | ⟨h, h'⟩)
      · exact .inl h
      · exact .inr ⟨.inl rfl, h⟩
      · exact .inr ⟨.inr h, h'⟩
    · rintro (h | ⟨rfl | h, h'⟩)
      · exact .inl (.inl h)
      · exact .inl (.inr ⟨rfl, h'⟩)
      · exact .inr ⟨h, h'⟩
theorem cellsF_mem {l : List Bx} {b : Bx} (D : List (Pt × List Int)) : ∀ (c : List Pt) (s : List Int × List (Int × Bool)), JF s →
    JF (c.foldl (fun s f => ((lkM D f).getD []).foldl (stepF l b) s) s) ∧ (∀ u, u ∈ (c.foldl (fun s f => ((lkM D f).getD []).foldl (stepF l b) s) s).1 ↔ u ∈ s.1 ∨ ∃ f ∈ c, u ∈ (lkM D f).getD [] ∧ Mt b (atB l u))
  | [], s, h => ⟨h, fun u => by simp⟩
  | f :: c, s, h => by
    obtain ⟨h1, h2, _⟩ := foldF_mem (l := l) (b := b) ((lkM D f).getD []) s h
    obtain ⟨i1, i2⟩ := cellsF_mem D c _ h1
    refine ⟨i1, fun u => ?_⟩
    rw [List.foldl_cons, i2, h2]
    constructor
    · rintro ((h | h) | ⟨f', hf', h⟩)
      · exact .inl h
      · exact .inr ⟨f, by simp, h⟩
      · exact .inr ⟨f', by simp [hf'], h⟩
    · rintro (h | ⟨f', hf', h⟩)
      · exact .inl (.inl h)
      · rcases List.mem_cons.1 hf' with rfl | hf'
        · exact .inl (.inr h)
        · exact .inr ⟨f', hf', h⟩
theorem atB_nat (l : List Bx) (i : Nat) : atB l (i : Int) = l.getD i default := by unfold atB; rw [Int.toNat_natCast]
theorem ixB {l : List Bx} {v : Int} (h : ∃ i : Nat, v = (i : Int) ∧ i < l.length) : ix l v = some (atB l v) := by
  obtain ⟨i, rfl, h⟩ := h
  rw [ix_getD default h, atB_nat]
theorem find_l5 {x : Idx} {l : List Bx} (hx : Inv x l) (hn : l.length ≤ 200) (b : Bx) (f : Pt) (s : List Int × List (Int × Bool)) (hs : s.1.length ≤ 900000) :
    rows_Index_Find_l5 x b f (s.1, s.2, 0) = some (.inl (((lkM x.2.1 f).getD []).foldl (stepF l b) s)) := by
  have hfl := hx.flen f
  have := loopO_nat (body := fun s => rows_Index_Find_b5 x b f s.1 s.2.1 s.2.2) (fun k => (((((lkM x.2.1 f).getD []).take k).foldl (stepF l b) s).1, ((((lkM x.2.1 f).getD []).take k).foldl (stepF l b) s).2, (k : Int))) ((lkM x.2.1 f).getD []).length (.inl (((lkM x.2.1 f).getD []).foldl (stepF l b) s)) (fun k hk => by
    dsimp only
    have hlen : ((((lkM x.2.1 f).getD []).take k).foldl (stepF l b) s).1.length ≤ s.1.length + 12800 := by
      have : ∀ (m : List Int) (s : List Int × List (Int × Bool)), (m.foldl (stepF l b) s).1.length ≤ s.1.length + m.length := by
        intro m
        induction m with
        | nil => intro s; simp
        | cons v m ih =>
          intro s
          have h1 := ih (stepF l b s v)
          have h2 : (stepF l b s v).1.length ≤ s.1.length + 1 := by unfold stepF; split <;> simp
          simp only [List.foldl_cons, List.length_cons]; omega
      have h1 := this (((lkM x.2.1 f).getD []).take k) s
      rw [List.length_take] at h1
      omega
    have hv := (hx.flds f _).1 (getD_mem (d := 0) hk)
    have hix : ix x.1 (((lkM x.2.1 f).getD []).getD k 0) = some (atB l (((lkM x.2.1 f).getD []).getD k 0)) := by
      rw [hx.all]
      obtain ⟨i, h1, h2, _⟩ := hv
      exact ixB ⟨i, h1, h2⟩
    rw [snoc_take 0 hk, List.foldl_append]
    simp only [List.foldl_cons, List.foldl_nil]
    generalize (((lkM x.2.1 f).getD []).take k).foldl (stepF l b) s = t at hlen ⊢
    unfold rows_Index_Find_b5
    rw [dlt hk, if_pos rfl, ix_getD 0 hk, bind_some', hix]
    generalize ((lkM x.2.1 f).getD []).getD k 0 = v
    unfold stepF
    cases hm : (lkM t.2 v).getD false with
    | true =>
      simp only [Bool.not_true, gd_false, bind_some', Bool.true_or, if_true, true_or]
      unfold rows_Index_Find_k6
      rw [ad_one (by omega)]
    | false =>
      simp only [Bool.not_false, gd_true, bind_some', Bool.false_or, Bool.false_eq_true, false_or]
      rw [rowsMeet_eq, bind_some']
      by_cases hM : Mt b (atB l v)
      · rw [decide_eq_true hM, if_neg (by decide), if_neg (fun h => h hM), app_le (by simp only [List.length_cons, List.length_nil]; omega), bind_some']
        unfold rows_Index_Find_k6
        rw [ad_one (by omega)]
      · rw [decide_eq_false hM, if_pos (by decide), if_pos hM]
        unfold rows_Index_Find_k6
        rw [ad_one (by omega)]) (by
    dsimp only
    unfold rows_Index_Find_b5
    rw [dnlt (Nat.lt_irrefl _), if_neg (by decide), List.take_length]; rfl)
  simpa [rows_Index_Find_l5] using this
theorem share {b c : Bx} (h : Mt b c) : ∃ f, f ∈ cells b ∧ f ∈ cells c := by
  obtain ⟨⟨_, _, h1, h2⟩, ⟨_, _, h3, h4⟩, h5, h6, h7, h8⟩ := h
  refine ⟨((max b.1.1 c.1.1) / 256, (max b.1.2 c.1.2) / 256), mem_cells.2 ?_, mem_cells.2 ?_⟩ <;> (simp only; omega)
theorem Find_eq {x : Idx} {l : List Bx} (hx : Inv x l) (hn : l.length ≤ 200) (b : Bx) : rows_Index_Find x b = some (fnd l b) := by
  unfold rows_Index_Find
  rw [rowsRight_eq]
  simp only [Bool.not_false, gd_true, bind_some', Bool.false_or]
  by_cases hr : RB b
  · rw [decide_eq_true hr, if_neg (by decide), great_eq b hr, bind_some']
    by_cases hg : Great b
    · rw [decide_eq_true hg, if_pos rfl]
      have := loopO_nat (body := fun s => rows_Index_Find_b1 x b s.1 s.2) (fun k => (((List.range k).filter fun i => decide (Mt b (l.getD i default))).map fun i => ((i : Nat) : Int), (k : Int))) l.length (fnd l b) (fun k hk => by
        dsimp only
        have hlen : (((List.range k).filter fun i => decide (Mt b (l.getD i default))).map fun i => ((i : Nat) : Int)).length ≤ k := by
          rw [List.length_map]
          have := List.length_filter_le (fun i => decide (Mt b (l.getD i default))) (List.range k)
          rwa [List.length_range] at this
        unfold rows_Index_Find_b1
        rw [hx.all, dlt hk, if_pos rfl, ix_getD default hk, bind_some', rowsMeet_eq, bind_some', List.range_succ, List.filter_append, List.map_append]
        by_cases hM : Mt b (l.getD k default)
        · rw [decide_eq_true hM, if_pos rfl, app_le (by simp only [List.length_cons, List.length_nil]; omega), bind_some']
          unfold rows_Index_Find_k2
          rw [ad_one (by omega), List.filter_cons_of_pos (by simpa using hM), List.filter_nil]; rfl
        · rw [decide_eq_false hM, if_neg (by decide)]
          unfold rows_Index_Find_k2
          rw [ad_one (by omega), List.filter_cons_of_neg (by simpa using hM), List.filter_nil, List.map_nil, List.append_nil]) (by
        dsimp only
        unfold rows_Index_Find_b1
        rw [hx.all, dnlt (Nat.lt_irrefl _), if_neg (by decide)]; rfl)
      simpa [rows_Index_Find_l1] using this
    · rw [decide_eq_false hg, if_neg (by decide)]
      have hgl := hx.glen
      have key : rngO (rows_fields_1 (((List Int) × (List (Int × Bool))) ⊕ Empty) (yb (fun (sr : (List Int) × (List (Int × Bool))) (xr : (Int × Int)) => rows_Index_Find_b7 x b sr.1 sr.2 xr)) (Sum.inl (x.2.2.filter fun v => decide (Mt b (atB l v)), ([] : List (Int × Bool)))) b) (fun (sr : (List Int) × (List (Int × Bool))) => rows_Index_Find_b8 sr.1 sr.2) (fun (e : Empty) => nomatch e) = some (fnd l b) := by
        have h0 : (x.2.2.filter fun v => decide (Mt b (atB l v))).length ≤ 200 := by have := List.length_filter_le (fun v => decide (Mt b (atB l v))) x.2.2; omega
        have he := each_eq (fun (sr : (List Int) × (List (Int × Bool))) (xr : Pt) => rows_Index_Find_b7 x b sr.1 sr.2 xr) (fun s f => ((lkM x.2.1 f).getD []).foldl (stepF l b) s) (fun n s => JF s ∧ s.1.length ≤ 200 + n * 12800) b hr (x.2.2.filter fun v => decide (Mt b (atB l v)), []) ⟨fun v hv => by simp [lkM] at hv, by simpa using h0⟩ (fun n s f hn' hP _ => by
          unfold Great at hg
          have hfl := hx.flen f
          obtain ⟨m1, m2, m3⟩ := foldF_mem (l := l) (b := b) ((lkM x.2.1 f).getD []) s hP.1
          refine ⟨find_l5 hx hn b f s (by have := hP.2; omega), m1, by have := hP.2; omega⟩)
        rw [he.1, rngO_inl]
        unfold rows_Index_Find_b8
        have hm := (cellsF_mem (l := l) (b := b) x.2.1 (cells b) (x.2.2.filter fun v => decide (Mt b (atB l v)), []) (fun v hv => by simp [lkM] at hv)).2
        have hlen := he.2.2
        rw [Uniq_eq _ (by unfold Great at hg; omega), bind_some']
        refine congrArg some (up_eq (uq_up _) (fnd_up l b) fun u => ?_)
        rw [mem_uq, hm, mem_fnd]
        simp only [List.mem_filter, decide_eq_true_eq]
        constructor
        · rintro (⟨h1, h2⟩ | ⟨f, _, h1, h2⟩)
          · obtain ⟨i, rfl, h3, _⟩ := (hx.great u).1 h1
            rw [atB_nat] at h2
            exact ⟨i, rfl, h3, h2⟩
          · obtain ⟨i, rfl, h3, _⟩ := (hx.flds f u).1 h1
            rw [atB_nat] at h2
            exact ⟨i, rfl, h3, h2⟩
        · rintro ⟨i, rfl, h1, h2⟩
          by_cases hgi : Great (l.getD i default)
          · exact .inl ⟨(hx.great _).2 ⟨i, rfl, h1, h2.2.1, hgi⟩, by rw [atB_nat]; exact h2⟩
          · obtain ⟨f, hf1, hf2⟩ := share h2
            exact .inr ⟨f, hf1, (hx.flds f _).2 ⟨i, rfl, h1, h2.2.1, hgi, hf2⟩, by rw [atB_nat]; exact h2⟩
      have := loopO_nat (body := fun s => rows_Index_Find_b3 x b s.1 s.2) (fun k => ((x.2.2.take k).filter fun v => decide (Mt b (atB l v)), (k : Int))) x.2.2.length (fnd l b) (fun k hk => by
        dsimp only
        have hlen : ((x.2.2.take k).filter fun v => decide (Mt b (atB l v))).length ≤ k := by
          have := List.length_filter_le (fun v => decide (Mt b (atB l v))) (x.2.2.take k)
          rw [List.length_take] at this; omega
        obtain ⟨i, hi1, hi2, _⟩ := (hx.great _).1 (getD_mem (d := 0) hk)
        unfold rows_Index_Find_b3
        rw [dlt hk, if_pos rfl, ix_getD 0 hk, bind_some', hx.all, ixB ⟨i, hi1, hi2⟩, bind_some', rowsMeet_eq, bind_some', snoc_take 0 hk, List.filter_append]
        by_cases hM : Mt b (atB l (x.2.2.getD k 0))
        · rw [decide_eq_true hM, if_pos rfl, app_le (by simp only [List.length_cons, List.length_nil]; omega), bind_some']
          unfold rows_Index_Find_k4
          rw [ad_one (by omega), List.filter_cons_of_pos (by simpa using hM), List.filter_nil]
        · rw [decide_eq_false hM, if_neg (by decide)]
          unfold rows_Index_Find_k4
          rw [ad_one (by omega), List.filter_cons_of_neg (by simpa using hM), List.filter_nil, List.append_nil]) (by
        dsimp only
        unfold rows_Index_Find_b3
        rw [dnlt (Nat.lt_irrefl _), if_neg (by decide), List.take_length]
        exact congrArg (Option.map Sum.inr) key)
      simpa [rows_Index_Find_l3] using this
  · rw [decide_eq_false hr, if_pos (by decide)]
    congr 1
    unfold fnd
    rw [List.filter_eq_nil_iff.2 (fun i _ => by simp only [decide_eq_true_eq]; exact fun h => hr h.1)]; rfl
def lowP (a b : Pt) : Pt := (mn a.1 b.1, mn a.2 b.2)
def highP (a b : Pt) : Pt := (mx a.1 b.1, mx a.2 b.2)
def boxP (l : List Pt) : Bx := (l.foldl lowP (l.getD 0 (0, 0)), l.foldl highP (l.getD 0 (0, 0)))
theorem Of_eq (l : List Pt) (hn : l.length ≤ 1000000) : rows_Of l = some (if 0 < l.length ∧ (∀ p ∈ l, May p) then (boxP l, true) else (((0, 0), (0, 0)), false)) := by
  unfold rows_Of exact_Box
  rw [Right_eq l hn]
  by_cases h0 : l.length = 0
  · rw [decide_eq_true (show (l.length : Int) = 0 by omega), if_neg (by omega)]; rfl
  · rw [decide_eq_false (show ¬ (l.length : Int) = 0 by omega)]
    simp only [Bool.not_false, gd_true, bind_some', Bool.false_or]
    by_cases hm : ∀ p ∈ l, May p
    · rw [decide_eq_true hm, if_neg (by decide), if_pos ⟨by omega, hm⟩]
      have h00 : ix l 0 = some (l.getD 0 (0, 0)) := ix_getD (0, 0) (show 0 < l.length by omega)
      rw [h00, bind_some', bind_some']
      have := loopO_nat (body := fun s => exact_Box_b1 l s.1 s.2.1 s.2.2) (fun k => ((l.take k).foldl lowP (l.getD 0 (0, 0)), (l.take k).foldl highP (l.getD 0 (0, 0)), (k : Int))) l.length ((boxP l).1, (boxP l).2, true) (fun k hk => by
        dsimp only
        unfold exact_Box_b1
        rw [dlt hk, if_pos rfl, ix_getD (0, 0) hk, bind_some', snoc_take (0, 0) hk, List.foldl_append, List.foldl_append, ad_one (by omega)]; rfl) (by
        dsimp only
        unfold exact_Box_b1
        rw [dnlt (Nat.lt_irrefl _), if_neg (by decide), List.take_length]; rfl)
      rw [show exact_Box_l1 l (l.getD 0 (0, 0), l.getD 0 (0, 0), 0) = _ from this]; rfl
    · rw [decide_eq_false hm, if_pos (by decide), if_neg fun h => hm h.2]; rfl
end Go.Proofs.Ytoccfdohlefifaa.Pl
