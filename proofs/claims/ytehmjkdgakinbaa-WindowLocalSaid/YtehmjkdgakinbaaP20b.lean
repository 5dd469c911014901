/-
  Chapter 20, plainly: the tile that has a point; the laws. No program in sight.
-/
import Derived.Test.YtehmjkdgakinbaaP20a
namespace Go.Proofs.Ytehmjkdgakinbaa.Pl

/-! ### the tile that has a point -/
def In (z : Int) (p : Pt) : Prop := (0 ≤ z ∧ z ≤ 4) ∧ 0 ≤ p.1 ∧ 0 ≤ p.2 ∧ p.1 ≤ 4096 * Pw z ∧ p.2 ≤ 4096 * Pw z
instance (z : Int) (p : Pt) : Decidable (In z p) := by unfold In; infer_instance
def OfT (z : Int) (p : Pt) : Tl × Bool := if In z p then ((z, min (p.1 / 4096) (Pw z - 1), min (p.2 / 4096) (Pw z - 1)), true) else ((0, 0, 0), false)
theorem quK_pos (n k : Int) (h0 : 0 ≤ n) (hn : n ≤ 1000000000) (hk : 0 < k) : quK .i64 n k = some (n / k) := by
  unfold quK
  rw [if_neg (by omega), Int.tdiv_eq_ediv_of_nonneg h0]
  have h1 : 0 ≤ n / k := Int.ediv_nonneg h0 (by omega)
  have h2 : n / k ≤ n := Int.ediv_le_self _ h0
  exact congrArg some (IntWalk.i64_in _ (by omega))
theorem Pw_pos {z : Int} (h : 0 ≤ z ∧ z ≤ 4) : 0 < Pw z := by
  rw [show Pw z = 2 ^ z.toNat from if_pos h]; exact Nat.pow_pos (by decide)
theorem Of_eq (z : Int) (p : Pt) : window_Of z p = some (OfT z p) := by
  unfold window_Of
  rw [Side_eq, bind_some', bind_some', bind_some']
  have hw := Pw_le z
  by_cases h : In z p
  · obtain ⟨h1, h2, h3, h4, h5⟩ := h
    have hc : ((((!decide (0 ≤ z ∧ z ≤ 4)) || decide (p.1 < 0)) || decide (p.2 < 0)) || decide (((4096 * Pw z : Nat) : Int) < p.1) || decide (((4096 * Pw z : Nat) : Int) < p.2)) = false := by
      rw [decide_eq_true h1, decide_eq_false (by omega), decide_eq_false (by omega), decide_eq_false (by omega), decide_eq_false (by omega)]; rfl
    rw [hc, show OfT z p = _ from if_pos ⟨h1, h2, h3, h4, h5⟩]
    simp only [Bool.false_eq_true, if_false, count_eq, bind_some']
    rw [quK_pos _ _ h2 (by omega) (by decide), quK_pos _ _ h3 (by omega) (by decide), bind_some', bind_some', sb_in (by omega), mn_eq, mn_eq]
  · have hc : ((((!decide (0 ≤ z ∧ z ≤ 4)) || decide (p.1 < 0)) || decide (p.2 < 0)) || decide (((4096 * Pw z : Nat) : Int) < p.1) || decide (((4096 * Pw z : Nat) : Int) < p.2)) = true := by
      simp only [Bool.or_eq_true, Bool.not_eq_true', decide_eq_true_eq, decide_eq_false_iff_not]
      refine Classical.byContradiction fun hh => h ?_
      unfold In
      omega
    rw [hc, show OfT z p = _ from if_neg h]; rfl
theorem In.of_rt {z : Int} {p : Pt} (h : In z p) : Rt (OfT z p).1 ∧ (OfT z p).1.1 = z ∧ (OfT z p).2 = true := by
  obtain ⟨h1, h2, h3, h4, h5⟩ := h
  have hp := Pw_pos h1
  rw [show OfT z p = _ from if_pos ⟨h1, h2, h3, h4, h5⟩]
  unfold Rt
  refine ⟨⟨?_, ?_, ?_, ?_⟩, rfl, rfl⟩ <;> simp only <;> omega
/-- From behind: the first that is right. -/
theorem down_eq {α R : Type} (l : List α) (d : α) (ok : α → Prop) [DecidablePred ok] (body : Int → Option (Int ⊕ R)) (yes : α → R) (no : R) (hl : l.length ≤ 1000000)
    (h1 : ∀ k, k < l.length → ok (l.getD k d) → body (k : Int) = some (.inr (yes (l.getD k d)))) (h2 : ∀ k, k < l.length → ¬ ok (l.getD k d) → body (k : Int) = some (.inl ((k : Int) - 1))) (h3 : body (-1) = some (.inr no)) :
    (∀ k, k < l.length → ok (l.getD k d) → (∀ j, k < j → j < l.length → ¬ ok (l.getD j d)) → loopO body ((l.length : Int) - 1) = some (yes (l.getD k d))) ∧
    ((∀ k, k < l.length → ¬ ok (l.getD k d)) → loopO body ((l.length : Int) - 1) = some no) := by
  have skip : ∀ m n, m + n ≤ l.length → (∀ j, m ≤ j → j < m + n → ¬ ok (l.getD j d)) → loopO body (((m + n : Nat) : Int) - 1) = loopO body ((m : Int) - 1) := by
    intro m n
    induction n with
    | zero => intro _ _; rfl
    | succ n ih =>
      intro hle hno
      have h := h2 (m + n) (by omega) (hno _ (by omega) (by omega))
      rw [show ((m + (n + 1) : Nat) : Int) - 1 = ((m + n : Nat) : Int) by omega, loopO_inl h]
      exact ih (by omega) fun j a b => hno j a (by omega)
  refine ⟨fun k hk hok hno => ?_, fun hno => ?_⟩
  · have := skip (k + 1) (l.length - (k + 1)) (by omega) fun j a b => hno j (by omega) (by omega)
    rw [show (k + 1) + (l.length - (k + 1)) = l.length by omega] at this
    rw [this, show ((k + 1 : Nat) : Int) - 1 = (k : Int) by omega]
    exact loopO_inr (h1 k hk hok)
  · have := skip 0 l.length (by omega) fun j a b => hno j (by omega)
    rw [Nat.zero_add] at this
    rw [this]
    exact loopO_inr h3
theorem Meet_place {t : Tl} {p : Pt} (h : Rt t) : Mt (Win t 0).1 (p, p) ↔ 4096 * t.2.1 ≤ p.1 ∧ p.1 ≤ 4096 * t.2.1 + 4096 ∧ 4096 * t.2.2 ≤ p.2 ∧ p.2 ≤ 4096 * t.2.2 + 4096 := by
  rw [Win_pos h (by decide)]
  have := h.le
  unfold Mt RB May
  simp only
  constructor
  · rintro ⟨_, _, g1, g2, g3, g4⟩; omega
  · intro g; omega
theorem refOf_eq (z : Int) (p : Pt) : ref20_Of z p = some (OfT z p) := by
  unfold ref20_Of ref20_Of_l1
  rw [refAll20_eq, bind_some']
  have hbd := Grid_bound z
  have hgl := Grid_len z
  have key := down_eq (Grid z) (0, 0, 0) (fun t => Mt (Win t 0).1 (p, p)) (fun s => ref20_Of_b1 p (Grid z) s) (fun t => (t, true)) ((0, 0, 0), false) (by omega) (fun k hk hok => by
    unfold ref20_Of_b1
    have h0 : decide (0 ≤ (k : Int)) = true := by simp
    simp only [h0, if_true, ix_getD (0, 0, 0) hk, bind_some', refWindow_eq, ref06Meet_eq, decide_eq_true hok]; rfl) (fun k hk hok => by
    unfold ref20_Of_b1
    have h0 : decide (0 ≤ (k : Int)) = true := by simp
    simp only [h0, if_true, ix_getD (0, 0, 0) hk, bind_some', refWindow_eq, ref06Meet_eq, decide_eq_false hok, Bool.false_eq_true, if_false]
    rw [sb_in (by omega)]) rfl
  rw [sb_in (by omega)]
  have hw := Pw_le z
  by_cases h : In z p
  · obtain ⟨h1, h2, h3, h4, h5⟩ := h
    have hp := Pw_pos h1
    rw [show OfT z p = _ from if_pos ⟨h1, h2, h3, h4, h5⟩]
    obtain ⟨x, hx⟩ : ∃ x : Nat, (x : Int) = min (p.1 / 4096) (Pw z - 1) := ⟨(min (p.1 / 4096) (Pw z - 1)).toNat, by omega⟩
    obtain ⟨y, hy⟩ : ∃ y : Nat, (y : Int) = min (p.2 / 4096) (Pw z - 1) := ⟨(min (p.2 / 4096) (Pw z - 1)).toNat, by omega⟩
    have hxl : x < Pw z := by omega
    have hyl : y < Pw z := by omega
    obtain ⟨g1, g2⟩ := Grid_get hxl hyl
    have hrt : Rt (z, (x : Int), (y : Int)) := (Grid_Rt (Grid_in hxl hyl)).1
    have := key.1 (Pw z * x + y) (by omega) (by rw [g2, Meet_place hrt]; simp only; omega) (fun j hj hjl hm => by
      have hjm : (Grid z).getD j (0, 0, 0) ∈ Grid z := getD_mem hjl
      obtain ⟨a, b, ha, hb, e⟩ := Grid_mem hjm
      have hr := (Grid_Rt hjm).1
      rw [Meet_place hr, e] at hm
      simp only at hm
      have hj2 : j = Pw z * a + b := by
        have e2 : (Grid z).getD j (0, 0, 0) = (z, ((j / Pw z : Nat) : Int), ((j % Pw z : Nat) : Int)) := by
          rw [List.getD_eq_getElem?_getD, Grid, List.getElem?_map, List.getElem?_range (by omega)]; rfl
        rw [e] at e2
        injection e2 with _ e2
        injection e2 with e3 e4
        have e3 : a = j / Pw z := by omega
        have e4 : b = j % Pw z := by omega
        rw [e3, e4, Nat.div_add_mod]
      have hax : a ≤ x := by omega
      have hby : b ≤ y := by omega
      have : Pw z * a ≤ Pw z * x := Nat.mul_le_mul_left _ hax
      omega)
    rw [g2, hx, hy] at this
    exact this
  · rw [show OfT z p = _ from if_neg h]
    refine key.2 fun k hk hm => h ?_
    have hkm : (Grid z).getD k (0, 0, 0) ∈ Grid z := getD_mem hk
    obtain ⟨a, b, ha, hb, e⟩ := Grid_mem hkm
    have hr := (Grid_Rt hkm).1
    rw [Meet_place hr, e] at hm
    simp only at hm
    have hz : 0 ≤ z ∧ z ≤ 4 := by
      have := hr.lv
      rw [(Grid_Rt hkm).2] at this
      exact this
    exact ⟨hz, by omega, by omega, by omega, by omega⟩

/-! ### the example -/
theorem filt_one (z b : Int) (x : Bx) (t : Tl) (h : (Grid z).filter (ShT b x) = [t]) (hb : (0 ≤ b ∧ b ≤ 2047) ∧ RB x) : Shw z b x = [t] := (if_pos hb).trans h
theorem known20 : law20_known = some true := by
  unfold law20_known
  rw [Window_eq, bind_some', Of_eq, bind_some']
  have e1 : Win (1, 1, 0) 100 = (((3996, -100), (8292, 4196)), true) := by decide
  have e2 : OfT 1 (4096, 0) = ((1, 1, 0), true) := by decide
  have e3 : Shw 1 0 ((4096, 5), (4096, 5)) = [] := by decide
  have e4 : (Shw 1 1 ((4096, 5), (4096, 5))).length = 2 := by decide
  rw [e1, e2]
  simp only [bind_some', Shown_eq, e3, e4, List.length_nil, decide_true, Bool.and_self, gd_true, Int.ofNat_zero]
  simp [e4]

/-! ### the laws -/
def Parn (t : Tl) : Tl × Bool := if Rt t ∧ 0 < t.1 then ((t.1 - 1, t.2.1 / 2, t.2.2 / 2), true) else ((0, 0, 0), false)
theorem Parent_eq (t : Tl) : window_Parent t = some (Parn t) := by
  unfold window_Parent
  by_cases h : Rt t ∧ 0 < t.1
  · have hne : t ≠ (0, 0, 0) := fun e => by rw [e] at h; exact absurd h.2 (by decide)
    rw [decide_eq_false hne, show Parn t = _ from if_pos h]
    simp only [Bool.not_false, gd_true, Right20_eq, bind_some', decide_eq_true h.1, Bool.not_true, Bool.or_self, Bool.false_eq_true, if_false]
    have := h.1.le
    have := h.1.lv
    rw [quK_pos _ _ (by omega) (by omega) (by decide), quK_pos _ _ (by omega) (by omega) (by decide), bind_some', bind_some', sb_in (by omega)]
  · rw [show Parn t = _ from if_neg h]
    by_cases h0 : t = (0, 0, 0)
    · rw [decide_eq_true h0]; rfl
    · rw [decide_eq_false h0]
      have hr : ¬ Rt t := fun hr => h ⟨hr, by
        have hl := hr.lv
        refine Classical.byContradiction fun hn => h0 ?_
        have hz : t.1 = 0 := by omega
        obtain ⟨g1, g2, g3, g4⟩ := hr
        rw [hz, show Pw 0 = 1 from rfl] at g2 g4
        exact Prod.ext hz (Prod.ext (by show t.2.1 = 0; omega) (by show t.2.2 = 0; omega))⟩
      simp only [Bool.not_false, gd_true, Right20_eq, bind_some', decide_eq_false hr, Bool.or_true, if_true]
theorem Less20_eq (a b : Tl) : window_Less a b = ref20_Less a b := by
  unfold window_Less ref20_Less exact_Less
  by_cases h1 : a.1 = b.1
  · simp only [h1, decide_true, Bool.not_true, Bool.false_eq_true, if_false, bind_some']
    by_cases h2 : a.2.1 = b.2.1
    · simp [h2]
    · simp [h2]
  · simp [h1]
theorem refLess_ok (a b : Tl) : ∃ r, ref20_Less a b = some r := by
  unfold ref20_Less
  split
  · exact ⟨_, rfl⟩
  · split <;> exact ⟨_, rfl⟩
theorem law20_WindowTiles_true (x0 : Tl) (x1 : Tl) (x2 : Int) (k0 : I64 x0.1 ∧ I64 x0.2.1 ∧ I64 x0.2.2) (k1 : I64 x1.1 ∧ I64 x1.2.1 ∧ I64 x1.2.2) (k2 : I64 x2) : law20_WindowTiles x0 x1 x2 = some true := by
  unfold law20_WindowTiles
  obtain ⟨r, hr⟩ := refLess_ok x0 x1
  have hgl := Grid_len x0.1
  have hbd := Grid_bound x0.1
  have hs : law20_same (Grid x0.1) (Grid x0.1) = some true := by rw [same20_eq _ _ (by omega), decide_eq_true rfl]
  simp only [Window_eq, refWindow_eq, Place_eq, Right20_eq, refRight20_eq, bind_some', beq_self_eq_true, Bool.not_true, Bool.or_self, Bool.not_false, gd_true, box_eq, decide_true, Less20_eq, hr, All20_eq, refAll20_eq, hs, Bool.false_eq_true, if_false, Parent_eq]
  unfold law20_WindowTiles_k1
  by_cases h : Rt x0 ∧ 0 < x0.1
  · have hle := h.1.le
    rw [show Parn x0 = _ from if_pos h, decide_eq_true h.1, decide_eq_true h.2]
    simp only [Bool.and_self, if_true, known20, bind_some', quK_pos _ _ hle.1 (by omega) (show (0 : Int) < 2 by decide), quK_pos _ _ hle.2.2.1 (by omega) (show (0 : Int) < 2 by decide), beq_self_eq_true]
    have := h.1.lv
    rw [sb_in (by omega)]
    simp
  · rw [show Parn x0 = _ from if_neg h]
    have hc : (decide (Rt x0) && decide (0 < x0.1)) = false := by
      rw [Bool.and_eq_false_iff, decide_eq_false_iff_not, decide_eq_false_iff_not]
      by_cases h1 : Rt x0
      · exact .inr fun h2 => h ⟨h1, h2⟩
      · exact .inl h1
    rw [hc]
    simp [known20]
theorem mem_Shw {z b : Int} {x : Bx} {t : Tl} : t ∈ Shw z b x ↔ ((0 ≤ b ∧ b ≤ 2047) ∧ RB x) ∧ t ∈ Grid z ∧ Sh b x.1.1 x.2.1 t.2.1 ∧ Sh b x.1.2 x.2.2 t.2.2 := by
  unfold Shw
  split
  · rename_i h
    rw [List.mem_filter, ShT, Bool.and_eq_true, decide_eq_true_eq, decide_eq_true_eq]
    exact ⟨fun g => ⟨h, g⟩, fun g => g.2⟩
  · rename_i h
    exact ⟨fun g => by simp at g, fun g => (h g.1).elim⟩
theorem Shw_len (z b : Int) (x : Bx) : (Shw z b x).length ≤ 256 := by
  unfold Shw
  split
  · have := List.length_filter_le (ShT b x) (Grid z)
    have := Grid_len z
    have := Grid_bound z
    omega
  · simp
/-- Whether something is among a list's things, looked for one by one. -/
theorem found_eq {l : List Tl} {t : Tl} {R : Type} {body : Bool × Int → Option ((Bool × Int) ⊕ R)} {out : Bool → Option R} (hl : l.length ≤ 1000000)
    (h1 : ∀ (f : Bool) (k : Nat), k < l.length → body (f, (k : Int)) = some (.inl (f || decide (l.getD k (0, 0, 0) = t), ((k + 1 : Nat) : Int)))) (h2 : ∀ f : Bool, body (f, (l.length : Int)) = Option.map Sum.inr (out f)) {r : R} (hr : out (decide (t ∈ l)) = some r) :
    loopO body (false, 0) = some r := by
  have := loopO_nat (body := body) (fun k => (decide (t ∈ l.take k), (k : Int))) l.length r (fun k hk => by
    rw [h1 _ k hk]
    congr 3
    rw [snoc_take (0, 0, 0) hk, Bool.eq_iff_iff]
    simp only [Bool.or_eq_true, decide_eq_true_eq, List.mem_append, List.mem_singleton]
    constructor
    · rintro (h | h)
      · exact .inl h
      · exact .inr h.symm
    · rintro (h | h)
      · exact .inl h
      · exact .inr h.symm) (by
    rw [h2, List.take_length, hr]; rfl)
  rw [show (decide (t ∈ l.take 0), ((0 : Nat) : Int)) = (false, 0) by simp] at this
  exact this
theorem law20_WindowShows_true (x0 : Int) (x1 : Int) (x2 : Pt) (x3 : Bx) (k0 : I64 x0) (k1 : I64 x1) (k2 : I64 x2.1 ∧ I64 x2.2) (k3 : (I64 x3.1.1 ∧ I64 x3.1.2) ∧ (I64 x3.2.1 ∧ I64 x3.2.2)) : law20_WindowShows x0 x1 x2 x3 = some true := by
  unfold law20_WindowShows law20_WindowShows_l1
  have hs : law20_same (Shw x0 x1 x3) (Shw x0 x1 x3) = some true := by rw [same20_eq _ _ (by have := Shw_len x0 x1 x3; omega), decide_eq_true rfl]
  have hof : law01_Of x2 = some x2 := rfl
  simp only [Of_eq, hof, refOf_eq, Shown_eq, refShown_eq, bind_some', beq_self_eq_true, Bool.not_true, decide_true, Bool.or_self, Bool.not_false, gd_true, box_eq, hs, Bool.false_eq_true, if_false, Window_eq]
  by_cases hin : In x0 x2
  · obtain ⟨hrt, hz, h2⟩ := hin.of_rt
    by_cases hb : 0 ≤ x1 ∧ x1 ≤ 2047
    · rw [Win_pos hrt hb, h2]
      simp only [Bool.not_true, Bool.or_self, Bool.false_eq_true, if_false]
      have hle := hrt.le
      obtain ⟨i1, i2, i3, i4, i5⟩ := hin
      have hw := Pw_le x0
      have hpm : RB (x2, x2) := by unfold RB May; simp only; omega
      generalize ht : (OfT x0 x2).1 = t at *
      have htg : t ∈ Grid x0 := by
        obtain ⟨a, ha⟩ : ∃ a : Nat, (a : Int) = t.2.1 := ⟨t.2.1.toNat, by omega⟩
        obtain ⟨b, hb'⟩ : ∃ b : Nat, (b : Int) = t.2.2 := ⟨t.2.2.toNat, by omega⟩
        have e : t = (x0, (a : Int), (b : Int)) := Prod.ext hz (Prod.ext ha.symm hb'.symm)
        rw [e]
        refine Grid_in ?_ ?_
        · have := hrt.2.1; rw [hz] at this; omega
        · have := hrt.2.2.2; rw [hz] at this; omega
      have hlen := Shw_len x0 x1 (x2, x2)
      refine found_eq (l := Shw x0 x1 (x2, x2)) (t := t) (out := fun f => some (f == decide (t ∈ Shw x0 x1 (x2, x2)))) (by omega) (fun f k hk => ?_) (fun f => ?_) (by simp)
      · unfold law20_WindowShows_b1
        simp only [dlt hk, if_true, ix_getD (0, 0, 0) hk, ht, ad_one (show k < 1000000000 by omega)]
        cases f <;> simp
      · unfold law20_WindowShows_b1
        simp only [dnlt (Nat.lt_irrefl _), Bool.false_eq_true, if_false, bind_some', known20, gd_true, rowsMeet_eq]
        have hm : Mt ((4096 * t.2.1 - x1, 4096 * t.2.2 - x1), (4096 * t.2.1 + 4096 + x1, 4096 * t.2.2 + 4096 + x1)) (x2, x2) := by
          have e : t = (x0, min (x2.1 / 4096) (Pw x0 - 1), min (x2.2 / 4096) (Pw x0 - 1)) := by rw [← ht, show OfT x0 x2 = _ from if_pos ⟨i1, i2, i3, i4, i5⟩]
          rw [e] at hle ⊢
          simp only at hle ⊢
          unfold Mt RB May
          simp only
          omega
        rw [decide_eq_true hm]
        have hi : (((decide (4096 * t.2.1 - x1 < x2.1) && decide (x2.1 < 4096 * t.2.1 + 4096 + x1)) && decide (4096 * t.2.2 - x1 < x2.2)) && decide (x2.2 < 4096 * t.2.2 + 4096 + x1)) = decide (t ∈ Shw x0 x1 (x2, x2)) := by
          rw [Bool.eq_iff_iff]
          simp only [Bool.and_eq_true, decide_eq_true_eq, mem_Shw, Sh]
          constructor
          · intro g; exact ⟨⟨hb, hpm⟩, htg, by omega, by omega⟩
          · rintro ⟨_, _, g1, g2⟩; omega
        rw [hi]
        simp
    · rw [show Win _ x1 = _ from if_neg fun hh => hb hh.2]
      simp [known20]
  · rw [show OfT x0 x2 = _ from if_neg hin]
    simp [known20]
/-! ### few -/
theorem nodup_le {α : Type} [DecidableEq α] : ∀ {l m : List α}, l.Nodup → (∀ x ∈ l, x ∈ m) → l.length ≤ m.length
  | [], m, _, _ => Nat.zero_le _
  | x :: l, m, h, hs => by
    have hx : x ∈ m := hs x (by simp)
    have h' := List.nodup_cons.1 h
    have := nodup_le (m := m.erase x) h'.2 (fun y hy => (List.mem_erase_of_ne (fun e => by subst e; exact h'.1 hy)).2 (hs y (by simp [hy])))
    rw [List.length_erase_of_mem hx] at this
    have : 0 < m.length := List.length_pos_of_mem hx
    simp only [List.length_cons]
    omega
theorem Shw_nodup (z b : Int) (x : Bx) : (Shw z b x).Nodup := by
  unfold Shw
  split
  · exact (Grid_nodup z).filter _
  · exact List.nodup_nil
theorem few4 (z b : Int) (p : Pt) : (Shw z b (p, p)).length ≤ 4 := by
  have := nodup_le (Shw_nodup z b (p, p)) (m := [(z, (p.1 - 4096 - b) / 4096 + 1, (p.2 - 4096 - b) / 4096 + 1), (z, (p.1 - 4096 - b) / 4096 + 1, (p.2 - 4096 - b) / 4096 + 2), (z, (p.1 - 4096 - b) / 4096 + 2, (p.2 - 4096 - b) / 4096 + 1), (z, (p.1 - 4096 - b) / 4096 + 2, (p.2 - 4096 - b) / 4096 + 2)]) (fun t ht => by
    obtain ⟨⟨hb, _⟩, hg, h1, h2⟩ := mem_Shw.1 ht
    obtain ⟨_, hz⟩ := Grid_Rt hg
    unfold Sh at h1 h2
    simp only at h1 h2
    obtain ⟨t1, t2, t3⟩ := t
    simp only at *
    subst hz
    simp only [List.mem_cons, Prod.mk.injEq, true_and, List.not_mem_nil, or_false]
    omega)
  exact this
theorem few1 (z : Int) (p : Pt) : (Shw z 0 (p, p)).length ≤ 1 := by
  have := nodup_le (Shw_nodup z 0 (p, p)) (m := [(z, (p.1 - 4096) / 4096 + 1, (p.2 - 4096) / 4096 + 1)]) (fun t ht => by
    obtain ⟨⟨hb, _⟩, hg, h1, h2⟩ := mem_Shw.1 ht
    obtain ⟨_, hz⟩ := Grid_Rt hg
    unfold Sh at h1 h2
    simp only at h1 h2
    obtain ⟨t1, t2, t3⟩ := t
    simp only at *
    subst hz
    simp only [List.mem_cons, Prod.mk.injEq, true_and, List.not_mem_nil, or_false]
    omega)
  exact this
theorem Pw_half {z : Int} (h : 0 < z ∧ z ≤ 4) : Pw z = 2 * Pw (z - 1) := by
  have : z = 1 ∨ z = 2 ∨ z = 3 ∨ z = 4 := by omega
  rcases this with rfl | rfl | rfl | rfl <;> decide
theorem law20_WindowFew_true (x0 : Int) (x1 : Int) (x2 : Pt) (x3 : Tl) (k0 : I64 x0) (k1 : I64 x1) (k2 : I64 x2.1 ∧ I64 x2.2) (k3 : I64 x3.1 ∧ I64 x3.2.1 ∧ I64 x3.2.2) : law20_WindowFew x0 x1 x2 x3 = some true := by
  unfold law20_WindowFew law20_WindowFew_l1
  have h4 := few4 x0 x1 x2
  have h1 := few1 x0 x2
  rw [Of_eq, bind_some', Shown_eq, bind_some', bind_some']
  have d4 : decide (4 < ((Shw x0 x1 (x2, x2)).length : Int)) = false := by simp only [decide_eq_false_iff_not]; omega
  have d1 : decide (1 < ((Shw x0 0 (x2, x2)).length : Int)) = false := by simp only [decide_eq_false_iff_not]; omega
  simp only [d4, Bool.false_and, Bool.not_false, gd_true, Shown_eq, bind_some', d1, Bool.or_self, Bool.false_eq_true, if_false]
  -- the end
  have fin : ∀ i : Int, (decide (i < ((Shw x0 x1 (x2, x2)).length : Int)) && (OfT x0 x2).2) = false → law20_WindowFew_b1 x0 x3 (OfT x0 x2) (Shw x0 x1 (x2, x2)) i = some (.inr true) := by
    intro i hi
    unfold law20_WindowFew_b1
    rw [hi]
    simp only [bind_some', Bool.false_eq_true, if_false, Parent_eq]
    by_cases h : Rt x3 ∧ 0 < x3.1
    · rw [show Parn x3 = _ from if_pos h]
      have hle := h.1.le
      have hlv := h.1.lv
      have hh := Pw_half (z := x3.1) ⟨h.2, hlv.2⟩
      have hup : Rt (x3.1 - 1, x3.2.1 / 2, x3.2.2 / 2) := by
        obtain ⟨g1, g2, g3, g4⟩ := h.1
        unfold Rt
        simp only
        omega
      simp only [Bool.not_true, Bool.false_eq_true, if_false, Place_eq, Win_pos hup (show 0 ≤ (0 : Int) ∧ (0 : Int) ≤ 2047 by decide), Win_pos h.1 (show 0 ≤ (0 : Int) ∧ (0 : Int) ≤ 2047 by decide), bind_some', known20, Bool.and_self, Bool.true_and]
      rw [ml_in (by omega), ml_in (by omega), ml_in (by omega), ml_in (by omega)]
      rw [decide_eq_true (by omega), decide_eq_true (by omega), decide_eq_true (by omega), decide_eq_true (by omega)]; rfl
    · rw [show Parn x3 = _ from if_neg h]
      simp [known20]
  by_cases hin : In x0 x2
  · obtain ⟨hrt, hz, h2⟩ := hin.of_rt
    have := loopO_nat (body := fun s => law20_WindowFew_b1 x0 x3 (OfT x0 x2) (Shw x0 x1 (x2, x2)) s) (fun k => (k : Int)) (Shw x0 x1 (x2, x2)).length true (fun k hk => by
      have hm := getD_mem (d := ((0, 0, 0) : Tl)) hk
      obtain ⟨⟨hb, _⟩, hg, s1, s2⟩ := mem_Shw.1 hm
      obtain ⟨hr, hz2⟩ := Grid_Rt hg
      have hle := hr.le
      have hle2 := hrt.le
      unfold law20_WindowFew_b1
      simp only [dlt hk, h2, Bool.and_self, bind_some', if_true, ix_getD (0, 0, 0) hk, hz2, decide_true, Bool.not_true, Bool.not_false, gd_true, Bool.false_or, ad_one (show k < 1000000000 by omega)]
      generalize (Shw x0 x1 (x2, x2)).getD k (0, 0, 0) = t at *
      have e : (OfT x0 x2).1 = (x0, min (x2.1 / 4096) (Pw x0 - 1), min (x2.2 / 4096) (Pw x0 - 1)) := by rw [show OfT x0 x2 = _ from if_pos hin]
      obtain ⟨i1, i2, i3, i4, i5⟩ := hin
      unfold Sh at s1 s2
      simp only at s1 s2
      have hw := Pw_le x0
      have hp := Pw_pos i1
      have hr' := hr
      unfold Rt at hr'
      rw [hz2] at hr'
      rw [e] at hle2 ⊢
      simp only at hle2 ⊢
      rw [sb_in (by omega), sb_in (by omega), mx_eq, decide_eq_false (by omega)]
      simp only [Bool.not_false, gd_true, bind_some']
      rw [sb_in (by omega), sb_in (by omega), mx_eq, decide_eq_false (by omega)]; rfl) (fin _ (by rw [dnlt (Nat.lt_irrefl _)]; rfl))
    exact this
  · exact loopO_inr (fin 0 (by rw [show OfT x0 x2 = _ from if_neg hin]; simp))
/-! ### points by the numbers of a tile -/
theorem Clone_eq (l : List Pt) (hl : l.length ≤ 1000000) : slices_Clone_api_Point_api_Point l = some l := by
  unfold slices_Clone_api_Point_api_Point
  rw [app_le (by simp; omega)]; rfl
def mvd (x y : Int) (l : List Pt) : List Pt := l.map fun p => (p.1 + x, p.2 + y)
theorem mvd_len (x y : Int) (l : List Pt) : (mvd x y l).length = l.length := by simp [mvd]
theorem mvd_get {x y : Int} {l : List Pt} {k : Nat} (h : k < l.length) : (mvd x y l).getD k (0, 0) = ((l.getD k (0, 0)).1 + x, (l.getD k (0, 0)).2 + y) := by
  simp [mvd, List.getD_eq_getElem?_getD, h]
def mvw (x y : Int) (l : List Pt) : List Pt := l.map fun p => (ad p.1 x, ad p.2 y)
theorem mvw_len (x y : Int) (l : List Pt) : (mvw x y l).length = l.length := by simp [mvw]
theorem mvw_get {x y : Int} {l : List Pt} {k : Nat} (h : k < l.length) : (mvw x y l).getD k (0, 0) = (ad (l.getD k (0, 0)).1 x, ad (l.getD k (0, 0)).2 y) := by
  simp [mvw, List.getD_eq_getElem?_getD, h]
theorem moved_eq (l : List Pt) (x y : Int) (hl : l.length ≤ 1000000) : window_moved l x y = some (mvw x y l) := by
  unfold window_moved window_moved_l1
  rw [Clone_eq l hl, bind_some']
  have hml := mvw_len x y l
  have := loopO_nat (body := fun s => window_moved_b1 x y l s.1 s.2) (fun k => ((mvw x y l).take k ++ l.drop k, (k : Int))) l.length (mvw x y l) (fun k hk => by
    unfold window_moved_b1
    have hlen : ((mvw x y l).take k ++ l.drop k).length = l.length := by simp; omega
    have hg : ((mvw x y l).take k ++ l.drop k).getD k (0, 0) = l.getD k (0, 0) := by
      rw [getD_append_right (by simp; omega), getD_drop, List.length_take, Nat.min_eq_left (by omega)]; simp
    simp only [dlt hk, if_true, ix_getD (0, 0) (show k < ((mvw x y l).take k ++ l.drop k).length by omega), hg, bind_some', put_nat (show k < ((mvw x y l).take k ++ l.drop k).length by omega), ad_one (show k < 1000000000 by omega)]
    rw [snoc_take (0, 0) (show k < (mvw x y l).length by omega), mvw_get hk, drop_cons (0, 0) hk, List.set_append_right _ _ (by simp; omega)]
    simp [Nat.min_eq_left (show k ≤ (mvw x y l).length by omega)]) (by
    unfold window_moved_b1
    simp only [dnlt (Nat.lt_irrefl _), Bool.false_eq_true, if_false, List.drop_length, List.append_nil]
    rw [List.take_of_length_le (by omega)]; rfl)
  simpa using this
theorem ad_back (n c : Int) (h : I64 n) : ad (ad n (-c)) c = n := by
  unfold ad
  unfold I64 at h
  rw [IntKind.wrap_i64, IntKind.wrap_i64]
  omega
theorem ad_back' (n c : Int) (h : I64 n) : ad (ad n c) (-c) = n := by
  unfold ad
  unfold I64 at h
  rw [IntKind.wrap_i64, IntKind.wrap_i64]
  omega
theorem mvw_back (x y : Int) (l : List Pt) (h : ∀ p ∈ l, I64 p.1 ∧ I64 p.2) : mvw x y (mvw (-x) (-y) l) = l ∧ mvw (-x) (-y) (mvw x y l) = l := by
  unfold mvw
  rw [List.map_map, List.map_map]
  refine ⟨?_, ?_⟩
  · refine (List.map_congr_left fun p hp => ?_).trans (List.map_id l)
    have := h p hp
    exact Prod.ext (ad_back _ _ this.1) (ad_back _ _ this.2)
  · refine (List.map_congr_left fun p hp => ?_).trans (List.map_id l)
    have := h p hp
    exact Prod.ext (ad_back' _ _ this.1) (ad_back' _ _ this.2)
theorem law20_WindowLocal_true (x0 : Tl) (x1 : List Pt) (k0 : I64 x0.1 ∧ I64 x0.2.1 ∧ I64 x0.2.2) (k1 : ∀ y2 ∈ x1, I64 y2.1 ∧ I64 y2.2) : law20_WindowLocal x0 x1 = some true := by
  unfold law20_WindowLocal law20_WindowLocal_l1
  rw [Cut_eq, bind_some']
  have hl : (x1.take 40).length ≤ 40 := by rw [List.length_take]; omega
  have hk : ∀ p ∈ x1.take 40, I64 p.1 ∧ I64 p.2 := fun p hp => k1 p (List.mem_of_mem_take hp)
  generalize x1.take 40 = l at *
  unfold window_Local window_World
  simp only [Right20_eq, bind_some']
  by_cases h : Rt x0
  · rw [decide_eq_true h]
    have hle := h.le
    have e1 : ml 4096 x0.2.1 = 4096 * x0.2.1 := ml_in (by omega)
    have e2 : ml 4096 x0.2.2 = 4096 * x0.2.2 := ml_in (by omega)
    have e3 : ml (-4096) x0.2.1 = -(4096 * x0.2.1) := by rw [ml_in (by omega)]; omega
    have e4 : ml (-4096) x0.2.2 = -(4096 * x0.2.2) := by rw [ml_in (by omega)]; omega
    have ho : mvw (-(4096 * x0.2.1)) (-(4096 * x0.2.2)) [(4096 * x0.2.1 - 0, 4096 * x0.2.2 - 0)] = [(0, 0)] := by
      simp only [mvw, List.map_cons, List.map_nil]
      rw [ad_in (by omega), ad_in (by omega)]
      congr 2 <;> omega
    have hlm := mvw_len (-(4096 * x0.2.1)) (-(4096 * x0.2.2)) l
    have hlw := mvw_len (4096 * x0.2.1) (4096 * x0.2.2) l
    simp only [Bool.not_true, Bool.false_eq_true, if_false, e1, e2, e3, e4, moved_eq l _ _ (by omega), bind_some', Place_eq, Win_pos h (show 0 ≤ (0 : Int) ∧ (0 : Int) ≤ 2047 by decide), moved_eq [_] _ _ (by simp), ho]
    have := loopO_nat (body := fun s => law20_WindowLocal_b1 x0 l (mvw (-(4096 * x0.2.1)) (-(4096 * x0.2.2)) l) (mvw (4096 * x0.2.1) (4096 * x0.2.2) l) (((4096 * x0.2.1 - 0, 4096 * x0.2.2 - 0), (4096 * x0.2.1 + 4096 + 0, 4096 * x0.2.2 + 4096 + 0)), true) [(0, 0)] s) (fun k => (k : Int)) l.length true (fun k hkl => by
      unfold law20_WindowLocal_b1
      have hp := hk _ (getD_mem (d := ((0, 0) : Pt)) hkl)
      simp only [hlm, hlw, dlt hkl, decide_true, Bool.and_self, bind_some', if_true, ix_getD (0, 0) hkl, ix_getD (0, 0) (show k < (mvw (-(4096 * x0.2.1)) (-(4096 * x0.2.2)) l).length by omega), ix_getD (0, 0) (show k < (mvw (4096 * x0.2.1) (4096 * x0.2.2) l).length by omega), mvw_get hkl, e1, e2, ad_one (show k < 1000000000 by omega)]
      have q1 : ∀ n c : Int, ad n (-c) = sb n c := fun n c => by unfold ad sb; rw [Int.sub_eq_add_neg]
      simp only [q1, decide_true, Bool.not_true, Bool.not_false, gd_true, bind_some', Bool.or_self, Bool.false_eq_true, if_false]) (by
      unfold law20_WindowLocal_b1
      obtain ⟨b1, b2⟩ := mvw_back (4096 * x0.2.1) (4096 * x0.2.2) l hk
      have d0 : ix [((0, 0) : Pt)] 0 = some (0, 0) := rfl
      simp only [dnlt (Nat.lt_irrefl _), Bool.false_and, bind_some', Bool.false_eq_true, if_false, known20, List.length_cons, List.length_nil, d0]
      simp only [Int.ofNat_one, decide_true, Bool.and_self, Nat.zero_add, Int.natCast_one, gd_true, bind_some']
      unfold window_World window_Local
      simp only [Right20_eq, bind_some', decide_eq_true h, Bool.not_true, Bool.false_eq_true, if_false, e1, e2, e3, e4, moved_eq _ _ _ (show (mvw (-(4096 * x0.2.1)) (-(4096 * x0.2.2)) l).length ≤ 1000000 by omega), moved_eq _ _ _ (show (mvw (4096 * x0.2.1) (4096 * x0.2.2) l).length ≤ 1000000 by omega), b1, b2, Ofs_eq l (by omega), law03_Same_eq l l (by omega), decide_true, Bool.and_self, gd_true, Option.map_some])
    exact this
  · rw [decide_eq_false h]
    simp [known20]
end Go.Proofs.Ytehmjkdgakinbaa.Pl
