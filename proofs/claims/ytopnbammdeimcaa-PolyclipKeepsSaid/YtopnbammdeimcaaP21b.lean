import Derived.Test.YtopnbammdeimcaaP21a
namespace Go.Proofs.Ytopnbammdeimcaa.Pl
theorem Clone_eq (l : List Pt) (hn : l.length ≤ 1000000) : slices_Clone_api_Point_api_Point l = some l := by
  unfold slices_Clone_api_Point_api_Point
  rw [app_at (by simp [capB]; omega), bind_some', List.nil_append]
theorem Clip_eq (l : List Pt) : slices_Clip_api_Point_api_Point l = some l := by
  unfold slices_Clip_api_Point_api_Point
  rw [cut_to (Nat.le_refl _), bind_some', List.take_length]
theorem getD_map_range {n i : Nat} {f : Nat → Pt} (h : i < n) : ((List.range n).map f).getD i (0, 0) = f i := by
  rw [List.getD_eq_getElem?_getD, List.getElem?_eq_getElem (by simp; exact h)]
  simp
def rot (l : List Pt) (f : Nat) : List Pt := (List.range l.length).map fun i => l.getD ((f + i) % l.length) (0, 0)
theorem rot_len (l : List Pt) (f : Nat) : (rot l f).length = l.length := by simp [rot]
theorem rot_at {l : List Pt} {f i : Nat} (h : i < l.length) : (rot l f).getD i (0, 0) = l.getD ((f + i) % l.length) (0, 0) := getD_map_range h
def Al (a b : List Pt) : Prop := a.length = b.length ∧ (a.length = 0 ∨ ∃ k, k < b.length ∧ a = rot b k)
theorem Alike1_eq {a b : List Pt} (hab : a.length = b.length) (hn : a.length ≤ 1000000) {x : Nat} (hx : x < b.length) : ring_Alike_1 (x : Int) a b = some (decide (a = rot b x)) := by
  unfold ring_Alike_1 ring_Alike_1_l1
  have hb : ∀ k, k < a.length → ring_Alike_1_b1 (x : Int) a b (k : Int) = some (if a.getD k (0, 0) = b.getD ((x + k) % b.length) (0, 0) then .inl ((k + 1 : Nat) : Int) else .inr false) := fun k hk => by
    unfold ring_Alike_1_b1
    rw [decide_eq_true (show (k : Int) < (a.length : Int) by omega), if_pos rfl, ix_getD (0, 0) hk, bind_some', ad_in (by omega), show (x : Int) + (k : Int) = ((x + k : Nat) : Int) by omega, rm_nat (by omega), bind_some', ix_getD (0, 0) (Nat.mod_lt _ (by omega)), bind_some', ad_one (by omega)]
    by_cases h : a.getD k (0, 0) = b.getD ((x + k) % b.length) (0, 0)
    · rw [decide_eq_true h, if_pos h]; rfl
    · rw [decide_eq_false h, if_neg h]; rfl
  have := loopO_all (body := fun s => ring_Alike_1_b1 (x : Int) a b s) (fun k => (k : Int)) a.length (fun k => a.getD k (0, 0) = b.getD ((x + k) % b.length) (0, 0)) true false (fun k hk hok => by
    simp only [hb k hk, if_pos hok]) (fun k hk hok => by
    simp only [hb k hk, if_neg hok]) (by
    unfold ring_Alike_1_b1
    rw [decide_eq_false (by omega)]; rfl)
  refine (show loopO _ _ = _ from this).trans ?_
  by_cases h : a = rot b x
  · rw [decide_eq_true h, if_pos]
    intro k hk
    rw [h, rot_at (by omega)]
  · rw [decide_eq_false h, if_neg]
    intro h'
    refine h (ext_getD (0, 0) (by rw [rot_len]; exact hab) fun i hi => ?_)
    rw [h' i hi, rot_at (by omega)]
theorem Alike_eq {a b : List Pt} (hn : a.length ≤ 1000000) : ∃ r, ring_Alike a b = some r ∧ (r = true ↔ Al a b) := by
  unfold ring_Alike ring_Alike_l1
  by_cases hab : a.length = b.length
  · rw [decide_eq_true (show (a.length : Int) = (b.length : Int) by omega)]
    have hb : ∀ k, k < b.length → ring_Alike_b1 a b (k : Int) = some (if ¬ a = rot b k then .inl ((k + 1 : Nat) : Int) else .inr true) := fun k hk => by
      unfold ring_Alike_b1
      rw [decide_eq_true (show (k : Int) < (b.length : Int) by omega), if_pos rfl, Alike1_eq hab hn hk, bind_some', ad_one (by omega)]
      by_cases h : a = rot b k
      · rw [decide_eq_true h, if_pos rfl, if_neg (not_not_intro h)]; rfl
      · rw [decide_eq_false h, if_neg Bool.false_ne_true, if_pos h]
    have := loopO_all (body := fun s => ring_Alike_b1 a b s) (fun k => (k : Int)) b.length (fun k => ¬ a = rot b k) (decide ((a.length : Int) = 0)) true (fun k hk hok => by
      simp only [hb k hk, if_pos hok]) (fun k hk hok => by
      simp only [hb k hk, if_neg hok]) (by
      unfold ring_Alike_b1
      rw [decide_eq_false (by omega)]; rfl)
    refine ⟨_, this, ?_⟩
    unfold Al
    by_cases h : ∀ k, k < b.length → ¬ a = rot b k
    · rw [if_pos h, decide_eq_true_eq]
      constructor
      · intro h0; exact ⟨hab, .inl (by omega)⟩
      · rintro ⟨_, h0 | ⟨k, hk, e⟩⟩
        · omega
        · exact absurd e (h k hk)
    · rw [if_neg h]
      refine ⟨fun _ => ⟨hab, .inr (Classical.byContradiction fun hc => h fun k hk e => hc ⟨k, hk, e⟩)⟩, fun _ => rfl⟩
  · rw [decide_eq_false (show ¬ (a.length : Int) = (b.length : Int) by omega)]
    exact ⟨false, rfl, by simp [Al, hab]⟩
def shoe (l : List Pt) : Int := sumZ ((edg l).map fun e => e.1.1 * e.2.2 - e.2.1 * e.1.2)
theorem sum_add {X : Type} (f g : X → Int) : ∀ L : List X, sumZ (L.map fun x => f x + g x) = sumZ (L.map f) + sumZ (L.map g)
  | [] => rfl
  | x :: r => by
    have := sum_add f g r
    simp only [sumZ, List.map_cons, List.foldr_cons] at this ⊢
    omega
theorem sum_neg {X : Type} (f : X → Int) : ∀ L : List X, sumZ (L.map fun x => - f x) = - sumZ (L.map f)
  | [] => rfl
  | x :: r => by
    have := sum_neg f r
    simp only [sumZ, List.map_cons, List.foldr_cons] at this ⊢
    omega
theorem edg_fst (l : List Pt) : (edg l).map Prod.fst = l := by
  unfold edg
  rw [List.map_fst_zip]
  simp; omega
theorem edg_snd (l : List Pt) : (edg l).map Prod.snd = l.drop 1 ++ l.take 1 := by
  unfold edg
  rw [List.map_snd_zip]
  simp; omega
theorem sum_next (f : Pt → Int) (l : List Pt) : sumZ ((edg l).map fun e => f e.2) = sumZ ((edg l).map fun e => f e.1) := by
  have h1 : (edg l).map (fun e => f e.2) = (l.drop 1 ++ l.take 1).map f := by rw [← edg_snd, List.map_map]; rfl
  have h2 : (edg l).map (fun e => f e.1) = l.map f := by
    conv => rhs; rw [← edg_fst l]
    rw [List.map_map]; rfl
  rw [h1, h2]
  refine sumZ_perm (List.Perm.map f ?_)
  have : (l.drop 1 ++ l.take 1).Perm (l.take 1 ++ l.drop 1) := List.perm_append_comm
  rwa [List.take_append_drop] at this
theorem aZ_shoe (l : List Pt) : aZ l = shoe l := by
  unfold aZ shoe
  generalize l.getD 0 (0, 0) = o
  have key : ∀ g : Pt → Int, (∀ e : Pt × Pt, crossZ o e.1 e.2 = (e.1.1 * e.2.2 - e.2.1 * e.1.2) + (g e.2 + - g e.1)) → sumZ ((edg l).map fun e => crossZ o e.1 e.2) = sumZ ((edg l).map fun e => e.1.1 * e.2.2 - e.2.1 * e.1.2) := by
    intro g e
    rw [show (fun e : Pt × Pt => crossZ o e.1 e.2) = fun e => (e.1.1 * e.2.2 - e.2.1 * e.1.2) + (g e.2 + - g e.1) from funext e, sum_add, sum_add (fun e : Pt × Pt => g e.2), sum_neg (fun e : Pt × Pt => g e.1), sum_next g]
    omega
  exact key (fun p => p.1 * o.2 - p.2 * o.1) (fun e => by unfold crossZ; grind)
theorem take40 (l : List Pt) : (l.take 40).length ≤ 40 := by rw [List.length_take]; omega
def trimN : Nat → List Pt → List Pt
  | 0, l => l
  | n + 1, l => if 1 < l.length ∧ l.getD (l.length - 1) (0, 0) = l.getD 0 (0, 0) then trimN n (l.take (l.length - 1)) else l
def thin (l : List Pt) : List Pt := trimN l.length (dd l)
theorem trim_eq : ∀ (n : Nat) (l : List Pt), l.length ≤ n → n ≤ 1000000 → ring_Thin_l1 l = some (trimN n l) := by
  have stop : ∀ l : List Pt, l.length ≤ 1000000 → ¬ (1 < l.length ∧ l.getD (l.length - 1) (0, 0) = l.getD 0 (0, 0)) → ring_Thin_l1 l = some l := by
    intro l hn h
    refine loopO_inr ?_
    unfold ring_Thin_b1
    by_cases h1 : 1 < l.length
    · have e1 : ix l (sb (l.length : Int) 1) = some (l.getD (l.length - 1) (0, 0)) := by
        rw [sb_in (by omega), show (l.length : Int) - 1 = ((l.length - 1 : Nat) : Int) by omega, ix_getD (0, 0) (by omega)]
      have e0 : ix l 0 = some (l.getD 0 (0, 0)) := ix_getD (i := 0) (0, 0) (by omega)
      simp only [decide_eq_true (show 1 < (l.length : Int) by omega), gd_true, e1, e0, bind_some', decide_eq_false (fun h' => h ⟨h1, h'⟩), Bool.and_false, Bool.false_eq_true, if_false, Clip_eq]; rfl
    · rw [decide_eq_false (show ¬ 1 < (l.length : Int) by omega)]
      simp only [gd_false, bind_some', Bool.false_and, Bool.false_eq_true, if_false, Clip_eq]; rfl
  intro n
  induction n with
  | zero =>
    intro l hl _
    exact stop l (by omega) (by omega)
  | succ n ih =>
    intro l hl hn
    unfold trimN
    by_cases h : 1 < l.length ∧ l.getD (l.length - 1) (0, 0) = l.getD 0 (0, 0)
    · rw [if_pos h]
      have e1 : ix l (sb (l.length : Int) 1) = some (l.getD (l.length - 1) (0, 0)) := by
        rw [sb_in (by omega), show (l.length : Int) - 1 = ((l.length - 1 : Nat) : Int) by omega, ix_getD (0, 0) (by omega)]
      have e0 : ix l 0 = some (l.getD 0 (0, 0)) := ix_getD (i := 0) (0, 0) (by omega)
      have e2 : cut l 0 (sb (l.length : Int) 1) = some (l.take (l.length - 1)) := by
        rw [sb_in (by omega), show (l.length : Int) - 1 = ((l.length - 1 : Nat) : Int) by omega, cut_to (by omega)]
      have := ih (l.take (l.length - 1)) (by rw [List.length_take]; omega) (by omega)
      unfold ring_Thin_l1 at this ⊢
      rw [loopO_inl (s' := l.take (l.length - 1)) (by
        unfold ring_Thin_b1
        simp only [decide_eq_true (show 1 < (l.length : Int) by omega), gd_true, e1, e0, bind_some', decide_eq_true h.2, Bool.and_self, if_true, e2])]
      exact this
    · rw [if_neg h]
      exact stop l (by omega) h
theorem Thin_eq {l : List Pt} (hn : l.length ≤ 1000000) : ring_Thin l = some (thin l) := by
  unfold ring_Thin thin
  rw [Clone_eq l hn, bind_some', show slices_Compact_api_Point_api_Point l = some (dd l) from Compact_eq (0, 0) l hn, bind_some']
  exact trim_eq _ _ (dd_len_le l) hn
theorem trimN_pre : ∀ (n : Nat) (l : List Pt), ∃ k, trimN n l = l.take k
  | 0, l => ⟨l.length, by rw [List.take_length]; rfl⟩
  | n + 1, l => by
    unfold trimN
    split
    · obtain ⟨k, hk⟩ := trimN_pre n (l.take (l.length - 1))
      exact ⟨min k (l.length - 1), by rw [hk, List.take_take]⟩
    · exact ⟨l.length, by rw [List.take_length]⟩
theorem thin_mem {l : List Pt} {p : Pt} (h : p ∈ thin l) : p ∈ l := by
  obtain ⟨k, hk⟩ := trimN_pre l.length (dd l)
  unfold thin at h
  rw [hk] at h
  exact mem_dd.1 (List.mem_of_mem_take h)
theorem thin_len (l : List Pt) : (thin l).length ≤ l.length := by
  obtain ⟨k, hk⟩ := trimN_pre l.length (dd l)
  have := dd_len_le l
  unfold thin
  rw [hk, List.length_take]; omega
abbrev Bx := Pt × Pt
def Rt (b : Bx) : Prop := (May b.1 ∧ May b.2) ∧ b.1.1 ≤ b.2.1 ∧ b.1.2 ≤ b.2.2
instance (b : Bx) : Decidable (Rt b) := by unfold Rt; infer_instance
theorem rRight_eq (b : Bx) : rows_Right b = some (decide (Rt b)) := by
  unfold rows_Right
  rw [Ok_eq (by simp), bind_some', bind_some']
  congr 1
  rw [Bool.eq_iff_iff]
  simp only [Bool.and_eq_true, decide_eq_true_eq]
  unfold Rt Ok
  simp only [List.mem_cons, List.not_mem_nil, or_false, forall_eq_or_imp, forall_eq]
  exact and_assoc
def sds (b : Bx) : List (Int × Bool × Bool) := [(b.1.1, true, false), (b.2.1, false, false), (b.1.2, true, true), (b.2.2, false, true)]
def hfs (L : List (Int × Bool × Bool)) (l : List Pt) : List Pt := L.foldl (fun l s => hf s.1 s.2.1 s.2.2 l) l
def rg (l : List Pt) (b : Bx) : List Pt :=
  if Ok l ∧ Rt b then (if (thin (hfs (sds b) l)).length < 3 ∨ area (thin (hfs (sds b) l)) = 0 then [] else thin (hfs (sds b) l)) else []
theorem hfs_len : ∀ (L : List (Int × Bool × Bool)) (l : List Pt), (hfs L l).length ≤ 2 ^ L.length * l.length
  | [], l => by simp [hfs]
  | s :: L, l => by
    have h1 := hfs_len L (hf s.1 s.2.1 s.2.2 l)
    have h2 := hf_len s.1 s.2.1 s.2.2 l
    have h3 := Nat.mul_le_mul_left (2 ^ L.length) h2
    have e : 2 ^ (s :: L).length * l.length = 2 ^ L.length * (2 * l.length) := by rw [List.length_cons, Nat.pow_succ, Nat.mul_assoc]
    rw [e]
    exact Nat.le_trans h1 h3
theorem Ring_eq {l : List Pt} (b : Bx) (hn : l.length ≤ 60) : polyclip_Ring l b = some (rg l b) := by
  unfold polyclip_Ring rg
  rw [Ok_eq (by omega), bind_some', rRight_eq]
  by_cases hk : Ok l
  case neg =>
    rw [decide_eq_false hk, if_neg (fun h : Ok l ∧ Rt b => hk h.1)]; rfl
  by_cases hr : Rt b
  case neg =>
    rw [decide_eq_true hk, decide_eq_false hr, if_neg (fun h : Ok l ∧ Rt b => hr h.2)]; rfl
  rw [decide_eq_true hk, decide_eq_true hr, if_pos (show Ok l ∧ Rt b from ⟨hk, hr⟩)]
  simp only [Bool.not_true, Bool.not_false, gd_true, bind_some', Bool.or_self, Bool.false_eq_true, if_false, polyclip_sides]
  unfold polyclip_Ring_l1
  have hlen : ∀ k, k ≤ 4 → (hfs ((sds b).take k) l).length ≤ 960 := fun k hk => by
    have h1 := hfs_len ((sds b).take k) l
    have h2 : ((sds b).take k).length ≤ 4 := by rw [List.length_take]; omega
    have h3 : 2 ^ ((sds b).take k).length ≤ 2 ^ 4 := Nat.pow_le_pow_right (by omega) h2
    have h4 := Nat.mul_le_mul h3 hn
    omega
  have st : ∀ k s, k < 4 → (sds b)[k]? = some s → polyclip_Ring_b1 ((b.1.1, true, false), (b.2.1, false, false), (b.1.2, true, true), (b.2.2, false, true)) (hfs ((sds b).take k) l) (k : Int) = some (.inl (hfs ((sds b).take (k + 1)) l, ((k + 1 : Nat) : Int))) := fun k s hk hs => by
    unfold polyclip_Ring_b1
    rw [decide_eq_true (by omega), if_pos rfl, show ix [(b.1.1, true, false), (b.2.1, false, false), (b.1.2, true, true), (b.2.2, false, true)] (k : Int) = some s by rw [ix_nat]; exact hs, bind_some', Half_eq _ _ _ (by have := hlen k (by omega); omega), bind_some', ad_one (by omega)]
    rw [List.take_add_one, hs]
    simp only [hfs, Option.toList_some, List.foldl_append, List.foldl_cons, List.foldl_nil]
  have fin : polyclip_Ring_b1 ((b.1.1, true, false), (b.2.1, false, false), (b.1.2, true, true), (b.2.2, false, true)) (hfs (sds b) l) (4 : Int) = some (.inr (if (thin (hfs (sds b) l)).length < 3 ∨ area (thin (hfs (sds b) l)) = 0 then [] else thin (hfs (sds b) l))) := by
    have h4 := hlen 4 (by omega)
    rw [show (sds b).take 4 = sds b from rfl] at h4
    unfold polyclip_Ring_b1
    generalize hfs (sds b) l = m at h4
    have ht := thin_len m
    rw [decide_eq_false (by omega), if_neg Bool.false_ne_true, Thin_eq (by omega), bind_some']
    by_cases h3 : (thin m).length < 3
    · rw [decide_eq_true (by omega), if_pos (show (thin m).length < 3 ∨ area (thin m) = 0 from .inl h3)]; rfl
    · rw [decide_eq_false (by omega), Area_eq (by omega)]
      simp only [Bool.not_false, gd_true, bind_some', Bool.false_or, decide_eq_true_eq]
      by_cases ha : area (thin m) = 0
      · rw [if_pos ha, if_pos (.inr ha)]; rfl
      · rw [if_neg ha, if_neg (by rintro (h | h); exact h3 h; exact ha h)]; rfl
  have s0 := st 0 _ (by omega) rfl
  have s1 := st 1 _ (by omega) rfl
  have s2 := st 2 _ (by omega) rfl
  have s3 := st 3 _ (by omega) rfl
  rw [loopO_inl (body := fun s => polyclip_Ring_b1 ((b.1.1, true, false), (b.2.1, false, false), (b.1.2, true, true), (b.2.2, false, true)) s.1 s.2) (s := (l, 0)) s0, loopO_inl (body := fun s => polyclip_Ring_b1 ((b.1.1, true, false), (b.2.1, false, false), (b.1.2, true, true), (b.2.2, false, true)) s.1 s.2) s1, loopO_inl (body := fun s => polyclip_Ring_b1 ((b.1.1, true, false), (b.2.1, false, false), (b.1.2, true, true), (b.2.2, false, true)) s.1 s.2) s2, loopO_inl (body := fun s => polyclip_Ring_b1 ((b.1.1, true, false), (b.2.1, false, false), (b.1.2, true, true), (b.2.2, false, true)) s.1 s.2) s3]
  exact loopO_inr fin
def Whl (l : List Pt) (b : Bx) : Prop := ¬ l = [] ∧ Ok l ∧ Rt b ∧ ∀ e ∈ edg l, ∀ s ∈ sds b, ¬ Ctp e.1 e.2 s.1 s.2.2
theorem known21 : law21_known = some true := by
  unfold law21_known
  have e : rg [(0, 0), (8, 0), (8, 8), (0, 8)] ((2, 2), (4, 9)) = [(4, 2), (4, 8), (2, 8), (2, 2)] := by decide +kernel
  rw [Ring_eq _ (by simp), bind_some', e]
  obtain ⟨r, h1, h2⟩ := Alike_eq (a := [(4, 2), (4, 8), (2, 8), (2, 2)]) (b := [(2, 2), (4, 2), (4, 8), (2, 8)]) (by simp)
  rw [h1, bind_some', h2.2 ⟨rfl, .inr ⟨1, by simp, by decide⟩⟩]
end Go.Proofs.Ytopnbammdeimcaa.Pl
