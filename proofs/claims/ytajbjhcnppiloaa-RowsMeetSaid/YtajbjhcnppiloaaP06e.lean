/-
  Chapter 06, plainly: the box of points. No program in sight.
-/
import Derived.Test.YtajbjhcnppiloaaP06d
namespace Go.Proofs.Ytajbjhcnppiloaa.Pl
set_option maxRecDepth 4000

theorem Ofs_eq (l : List Pt) (hn : l.length ≤ 1000000) : law01_Ofs l = some l := by
  unfold law01_Ofs law01_Ofs_l1
  have := loopO_nat (body := fun s => law01_Ofs_b1 l s.1 s.2) (fun k => (l.take k, (k : Int))) l.length l (fun k hk => by
    unfold law01_Ofs_b1
    simp only [dlt hk, if_true, ix_getD (0, 0) hk, bind_some', law01_Of]
    rw [app_at (by simp [capB]; omega), bind_some', ad_one (by omega), ← snoc_take (0, 0) hk]) (by
    unfold law01_Ofs_b1
    simp only [dnlt (Nat.lt_irrefl _), List.take_length]; rfl)
  exact this
theorem all_dec (l : List Pt) {β : Type} (x y : β) : (if ∀ k, k < l.length → May (l.getD k (0, 0)) then x else y) = if (∀ p ∈ l, May p) then x else y := by
  by_cases h : ∀ p ∈ l, May p
  · rw [if_pos h, if_pos fun k hk => h _ (getD_mem hk)]
  · rw [if_neg h, if_neg]
    intro hh
    refine h fun p hp => ?_
    obtain ⟨i, hi, rfl⟩ := mem_getD (d := ((0, 0) : Pt)) hp
    exact hh i hi
theorem All_eq (l : List Pt) (hn : l.length ≤ 1000000) : ref01_All l = some (decide (∀ p ∈ l, May p)) := by
  have := loopO_all (body := fun s => ref01_All_b1 l s) (fun k => (k : Int)) l.length (fun k => May (l.getD k (0, 0))) true false (fun k hk ho => by
    unfold ref01_All_b1
    rw [dlt hk, if_pos rfl, ix_getD (0, 0) hk, bind_some', refMay_eq, bind_some', decide_eq_true ho, if_neg (by decide), ad_one (by omega)]) (fun k hk ho => by
    unfold ref01_All_b1
    rw [dlt hk, if_pos rfl, ix_getD (0, 0) hk, bind_some', refMay_eq, bind_some', decide_eq_false ho, if_pos (by decide)]; rfl) (by
    unfold ref01_All_b1
    rw [dnlt (Nat.lt_irrefl _), if_neg (by decide)]; rfl)
  rw [all_dec] at this
  refine (show ref01_All l = _ from this).trans ?_
  by_cases h : ∀ p ∈ l, May p
  · rw [if_pos h, decide_eq_true h]
  · rw [if_neg h, decide_eq_false h]
def lowP (a b : Pt) : Pt := (mn a.1 b.1, mn a.2 b.2)
def highP (a b : Pt) : Pt := (mx a.1 b.1, mx a.2 b.2)
def Holds (b : Bx) (p : Pt) : Prop := b.1.1 ≤ p.1 ∧ p.1 ≤ b.2.1 ∧ b.1.2 ≤ p.2 ∧ p.2 ≤ b.2.2
theorem box_fold : ∀ (l : List Pt) (b : Bx), RB b → (∀ p ∈ l, May p) → RB (l.foldl lowP b.1, l.foldl highP b.2) ∧ (∀ p, Holds b p ∨ p ∈ l → Holds (l.foldl lowP b.1, l.foldl highP b.2) p)
  | [], b, h, _ => ⟨h, fun p hp => hp.elim id fun h => nomatch h⟩
  | q :: l, b, h, hm => by
    have hq := hm q (by simp)
    have h1 : RB (lowP b.1 q, highP b.2 q) := by
      obtain ⟨a1, a2, a3, a4⟩ := h
      unfold May at a1 a2 hq
      unfold RB May lowP highP
      simp only [mn_eq, mx_eq]
      omega
    obtain ⟨i1, i2⟩ := box_fold l (lowP b.1 q, highP b.2 q) h1 fun p hp => hm p (by simp [hp])
    refine ⟨i1, fun p hp => i2 p ?_⟩
    have hb : ∀ p, Holds b p ∨ p = q → Holds (lowP b.1 q, highP b.2 q) p := fun p hp => by
      unfold Holds lowP highP at *
      simp only [mn_eq, mx_eq]
      rcases hp with hp | rfl <;> omega
    rcases hp with hp | hp
    · exact .inl (hb p (.inl hp))
    · rcases List.mem_cons.1 hp with rfl | hp
      · exact .inl (hb _ (.inr rfl))
      · exact .inr hp
def boxP (l : List Pt) : Bx := (l.foldl lowP (l.getD 0 (0, 0)), l.foldl highP (l.getD 0 (0, 0)))
theorem Of_eq (l : List Pt) (hn : l.length ≤ 1000000) : rows_Of l = some (if 0 < l.length ∧ (∀ p ∈ l, May p) then (boxP l, true) else (((0, 0), (0, 0)), false)) := by
  unfold rows_Of exact_Box
  rw [Right_eq l hn]
  by_cases h0 : l.length = 0
  · rw [decide_eq_true (show (l.length : Int) = 0 by omega), if_neg (by omega)]; rfl
  · rw [decide_eq_false (show ¬ (l.length : Int) = 0 by omega)]
    simp only [Bool.not_false, gd_true, bind_some', Bool.false_or]
    by_cases hm : ∀ p ∈ l, May p
    · rw [decide_eq_true hm, if_neg (by decide), if_pos ⟨by omega, hm⟩]
      have h00 : ix l 0 = some (l.getD 0 (0, 0)) := ix_getD (0, 0) (show 0 < l.length by omega)
      rw [h00, bind_some', bind_some']
      have := loopO_nat (body := fun s => exact_Box_b1 l s.1 s.2.1 s.2.2) (fun k => ((l.take k).foldl lowP (l.getD 0 (0, 0)), (l.take k).foldl highP (l.getD 0 (0, 0)), (k : Int))) l.length ((boxP l).1, (boxP l).2, true) (fun k hk => by
        dsimp only
        unfold exact_Box_b1
        rw [dlt hk, if_pos rfl, ix_getD (0, 0) hk, bind_some', snoc_take (0, 0) hk, List.foldl_append, List.foldl_append, ad_one (by omega)]; rfl) (by
        dsimp only
        unfold exact_Box_b1
        rw [dnlt (Nat.lt_irrefl _), if_neg (by decide), List.take_length]; rfl)
      rw [show exact_Box_l1 l (l.getD 0 (0, 0), l.getD 0 (0, 0), 0) = _ from this]; rfl
    · rw [decide_eq_false hm, if_pos (by decide), if_neg fun h => hm h.2]; rfl
theorem law06_RowsMeet_true (x0 : (Int × Int) × Int × Int) (x1 : (Int × Int) × Int × Int) (x2 : List (Int × Int)) (k0 : (I64 x0.1.1 ∧ I64 x0.1.2) ∧ (I64 x0.2.1 ∧ I64 x0.2.2)) (k1 : (I64 x1.1.1 ∧ I64 x1.1.2) ∧ (I64 x1.2.1 ∧ I64 x1.2.2)) (k2 : ∀ y2 ∈ x2, I64 y2.1 ∧ I64 y2.2) : law06_RowsMeet x0 x1 x2 = some true := by
  unfold law06_RowsMeet
  have ec : cut x2 0 (mn (x2.length : Int) 30) = some (x2.take 30) := by
    have e : mn (x2.length : Int) 30 = ((min x2.length 30 : Nat) : Int) := by rw [mn_eq]; omega
    rw [e, cut_to (by omega)]
    congr 1
    by_cases h : x2.length ≤ 30
    · rw [Nat.min_eq_left h, List.take_of_length_le (Nat.le_refl _), List.take_of_length_le h]
    · rw [Nat.min_eq_right (by omega)]
  rw [ec, bind_some']
  have hn : (x2.take 30).length ≤ 30 := by rw [List.length_take]; omega
  generalize x2.take 30 = l at hn ⊢
  rw [Of_eq l (by omega), bind_some', Ofs_eq l (by omega), bind_some']
  have fin : ∀ (r : Bx × Bool), law06_RowsMeet_b1 x0 x1 l r (l.length : Int) = some (.inr true) := fun r => by
    unfold law06_RowsMeet_b1
    have hs : decide (Mt x1 x0) = decide (Mt x0 x1) := decide_eq_decide.2 Mt_sym
    rw [dnlt (Nat.lt_irrefl _), if_neg (by decide), known06]
    simp only [bind_some', gd_true, rowsRight_eq, of_eq, ref06Right_eq, beq_self_eq_true, Bool.and_self, rowsMeet_eq, ref06Meet_eq, hs, Option.map_some]
  by_cases hc : 0 < l.length ∧ ∀ p ∈ l, May p
  · rw [if_pos hc, decide_eq_true (show (0 : Int) < (l.length : Int) by omega), gd_true, All_eq l (by omega), bind_some', decide_eq_true hc.2]
    simp only [Bool.and_self, bind_some', Bool.not_true, Bool.false_and, beq_self_eq_true, Bool.or_self, Bool.false_eq_true, if_false]
    have hb : RB (boxP l) ∧ ∀ p ∈ l, Holds (boxP l) p := by
      have hp0 := hc.2 _ (getD_mem (d := ((0, 0) : Pt)) hc.1)
      obtain ⟨i1, i2⟩ := box_fold l (l.getD 0 (0, 0), l.getD 0 (0, 0)) ⟨hp0, hp0, Int.le_refl _, Int.le_refl _⟩ hc.2
      exact ⟨i1, fun p hp => i2 p (.inr hp)⟩
    have := loopO_nat (body := fun s => law06_RowsMeet_b1 x0 x1 l (boxP l, true) s) (fun k => (k : Int)) l.length true (fun k hk => by
      have hp := getD_mem (d := ((0, 0) : Pt)) hk
      have hh := hb.2 _ hp
      have hm := hc.2 _ hp
      unfold law06_RowsMeet_b1
      rw [dlt hk, if_pos rfl]
      simp only [gd_true]
      rw [ix_getD (0, 0) hk, bind_some', bind_some', rowsMeet_eq, bind_some']
      have hM : Mt (boxP l) (l.getD k (0, 0), l.getD k (0, 0)) := ⟨hb.1, ⟨hm, hm, Int.le_refl _, Int.le_refl _⟩, hh.1, hh.2.1, hh.2.2.1, hh.2.2.2⟩
      rw [decide_eq_true hM, if_neg (by decide), ad_one (by omega)]) (fin _)
    exact this
  · rw [if_neg hc]
    have e : (gd (decide ((0 : Int) < (l.length : Int))) (ref01_All l) false).bind (fun r109 => some (decide ((0 : Int) < (l.length : Int)) && r109)) = some false := by
      by_cases h0 : 0 < l.length
      · rw [decide_eq_true (show (0 : Int) < (l.length : Int) by omega), gd_true, All_eq l (by omega), decide_eq_false fun h => hc ⟨h0, h⟩]; rfl
      · rw [decide_eq_false (show ¬ (0 : Int) < (l.length : Int) by omega)]; rfl
    have e2 : ∀ f : Bool → Option Bool, ((gd (decide ((0 : Int) < (l.length : Int))) (ref01_All l) false).bind fun r109 => (some (decide ((0 : Int) < (l.length : Int)) && r109)).bind f) = f false := fun f => by
      rw [← Option.bind_assoc, e]; rfl
    rw [e2]
    have := loopO_nat (body := fun s => law06_RowsMeet_b1 x0 x1 l (((0, 0), (0, 0)), false) s) (fun k => (k : Int)) l.length true (fun k hk => by
      unfold law06_RowsMeet_b1
      rw [dlt hk, if_pos rfl]
      simp only [gd_false, bind_some', Bool.false_and, Bool.false_eq_true, if_false]
      rw [ad_one (by omega)]) (fin _)
    simpa [law06_RowsMeet_l1] using this
end Go.Proofs.Ytajbjhcnppiloaa.Pl
