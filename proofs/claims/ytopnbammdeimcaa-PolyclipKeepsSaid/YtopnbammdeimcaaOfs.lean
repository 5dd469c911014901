import Derived.Test.YtopnbammdeimcaaSall
import Derived.Test.YtopnbammdeimcaaLib
namespace Go.Proofs.Ytopnbammdeimcaa.Pl
abbrev Pt := Int × Int
theorem Ofs_eq (l : List Pt) (hn : l.length ≤ 1000000) : law01_Ofs l = some l := by
  unfold law01_Ofs law01_Ofs_l1
  have := loopO_nat (body := fun s => law01_Ofs_b1 l s.1 s.2) (fun k => (l.take k, (k : Int))) l.length l (fun k hk => by
    unfold law01_Ofs_b1
    simp only [dlt hk, if_true, ix_getD (0, 0) hk, bind_some', law01_Of]
    rw [app_at (by simp [capB]; omega), bind_some', ad_one (by omega), ← snoc_take (0, 0) hk]) (by
    unfold law01_Ofs_b1
    simp only [dnlt (Nat.lt_irrefl _), List.take_length]; rfl)
  exact this
theorem ref03_Same_eq (a b : List Pt) (hn : a.length ≤ 1000000) : ref03_Same a b = some (decide (a = b)) := by
  unfold ref03_Same ref03_Same_l1
  by_cases hl : a.length = b.length
  · have hd : decide ((a.length : Int) = (b.length : Int)) = true := by simp only [decide_eq_true_eq]; omega
    simp only [hd, Bool.not_true, Bool.false_eq_true, if_false]
    have := loopO_all (body := fun s => ref03_Same_b1 a b s) (fun k => (k : Int)) a.length (fun k => a.getD k (0, 0) = b.getD k (0, 0)) true false (fun k hk hok => by
      unfold ref03_Same_b1
      simp only [dlt hk, if_true, ix_getD (0, 0) hk, ix_getD (0, 0) (show k < b.length by omega), bind_some', hok, decide_true, Bool.not_true, Bool.false_eq_true, if_false, ad_one (show k < 1000000000 by omega)]) (fun k hk hok => by
      unfold ref03_Same_b1
      simp only [dlt hk, if_true, ix_getD (0, 0) hk, ix_getD (0, 0) (show k < b.length by omega), bind_some', decide_eq_false hok, Bool.not_false]; rfl) (by
      unfold ref03_Same_b1
      simp only [dnlt (Nat.lt_irrefl _)]; rfl)
    refine (show loopO _ _ = _ from this).trans ?_
    congr 1
    by_cases h : a = b
    · subst h
      rw [if_pos (fun _ _ => rfl), decide_eq_true rfl]
    · rw [if_neg (fun hh => h (ext_getD (0, 0) hl hh)), decide_eq_false h]
  · have hd : decide ((a.length : Int) = (b.length : Int)) = false := by simp only [decide_eq_false_iff_not]; omega
    simp only [hd, Bool.not_false, if_true]
    rw [decide_eq_false (fun h => hl (by rw [h]))]
theorem law03_Same_eq (a b : List Pt) (hn : a.length ≤ 1000000) : law03_Same a b = some (decide (a = b)) := by
  unfold law03_Same
  rw [Ofs_eq a hn, bind_some', ref03_Same_eq a b hn]; rfl
end Go.Proofs.Ytopnbammdeimcaa.Pl
