import Derived.Test.YthkmkmkcnljmaaaP03n
import Derived.Test.YthkmkmkcnljmaaaJor
namespace Go.Proofs.Ythkmkmkcnljmaaa.Pl
set_option maxRecDepth 4000
def Yl (σ : Int) (p : Pt) : Int := 134217728 * p.2 - σ * p.1
def emb (σ : Int) (p : Pt) : Jor.Q2 := ((p.1 : Rat), (Yl σ p : Rat))
theorem Yl_inj {σ : Int} (hσ : σ = 1 ∨ σ = -1) {p q : Pt} (hp : May p) (hq : May q) (h : Yl σ p = Yl σ q) : p = q := by
  unfold Yl at h
  unfold May at hp hq
  rcases hσ with rfl | rfl <;> exact pt_ext (by omega) (by omega)
theorem cast_lt {a b : Int} : ((a : Rat) < (b : Rat)) ↔ a < b := Rat.intCast_lt_intCast
theorem cast_le {a b : Int} : ((a : Rat) ≤ (b : Rat)) ↔ a ≤ b := Rat.intCast_le_intCast
theorem cast_eq {a b : Int} : ((a : Rat) = (b : Rat)) ↔ a = b := Rat.intCast_inj
theorem xat_cross {A B : Jor.Q2} (h : A.2 ≠ B.2) (x t : Rat) : (Jor.xat A B t - x) * (B.2 - A.2) = (B.1 - A.1) * (t - A.2) - (B.2 - A.2) * (x - A.1) := by
  unfold Jor.xat
  have := Rat.div_mul_cancel (a := B.1 - A.1) (b := B.2 - A.2) (by grind)
  grind
theorem prod_sign (u v : Int) : (0 < u → (0 < u * v ↔ 0 < v) ∧ (u * v < 0 ↔ v < 0)) ∧ (u < 0 → (0 < u * v ↔ v < 0) ∧ (u * v < 0 ↔ 0 < v)) ∧ (u = 0 → u * v = 0) := by
  refine ⟨fun hu => ?_, fun hu => ?_, fun hu => by rw [hu, Int.zero_mul]⟩
  · rcases Int.lt_trichotomy v 0 with h | h | h
    · have := Int.mul_neg_of_pos_of_neg hu h; omega
    · rw [h, Int.mul_zero]; omega
    · have := Int.mul_pos hu h; omega
  · rcases Int.lt_trichotomy v 0 with h | h | h
    · have := Int.mul_pos_of_neg_of_neg hu h; omega
    · rw [h, Int.mul_zero]; omega
    · have := Int.mul_neg_of_neg_of_pos hu h; omega
def Lo (σ k : Int) (m : Pt) (y : Int) : Prop := if σ = 1 then k * y ≤ m.2 else k * y < m.2
instance (σ k : Int) (m : Pt) (y : Int) : Decidable (Lo σ k m y) := by unfold Lo; infer_instance
theorem Lo_one (k : Int) (m : Pt) (y : Int) : Lo 1 k m y ↔ k * y ≤ m.2 := by unfold Lo; rw [if_pos rfl]
theorem Lo_neg (k : Int) (m : Pt) (y : Int) : Lo (-1) k m y ↔ k * y < m.2 := by unfold Lo; rw [if_neg (by decide)]
def sdK (k : Int) (m c d : Pt) : Int := (d.1 - c.1) * (m.2 - k * c.2) - (d.2 - c.2) * (m.1 - k * c.1)
def cntK (σ k : Int) (m c d : Pt) : Int := if (Lo σ k m c.2 ∧ ¬ Lo σ k m d.2) ∧ 0 < sdK k m c d then 1 else if (Lo σ k m d.2 ∧ ¬ Lo σ k m c.2) ∧ sdK k m c d < 0 then -1 else 0
def MayK (k : Int) (m : Pt) : Prop := -16777216 * k ≤ m.1 ∧ m.1 ≤ 16777216 * k ∧ -16777216 * k ≤ m.2 ∧ m.2 ≤ 16777216 * k
theorem rat_pos_iff {p q r : Rat} (hq : 0 < q) (h : p * q = r) : (0 < p ↔ 0 < r) := by
  constructor
  · intro hp
    have := Rat.mul_pos hp hq
    grind
  · intro hr
    refine Rat.not_le.1 fun hp => ?_
    have := Rat.mul_nonneg (show 0 ≤ -p by grind) (show 0 ≤ q by grind)
    grind
theorem bl_cast {k : Int} (hk : 0 < k) {y Ym : Int} {t : Rat} (ht : (k : Rat) * t = (Ym : Rat)) : Jor.bl (y : Rat) t = if k * y < Ym then 1 else 0 := by
  unfold Jor.bl
  have hk' : (0 : Rat) < (k : Rat) := by exact_mod_cast hk
  have e : ((k * y : Int) : Rat) = (k : Rat) * (y : Rat) := by push_cast; rfl
  have h1 := rat_pos_iff (p := t - (y : Rat)) (q := (k : Rat)) (r := (Ym : Rat) - ((k * y : Int) : Rat)) hk' (by rw [e]; grind)
  have h2 : ((y : Rat) < t) ↔ k * y < Ym := by
    rw [← cast_lt]; grind
  by_cases h : k * y < Ym
  · rw [if_pos h, if_pos (h2.2 h)]
  · rw [if_neg h, if_neg (fun hh => h (h2.1 hh))]
theorem rt_cast {σ k : Int} (hσ : σ = 1 ∨ σ = -1) (hk : 0 < k) {c d m : Pt} (hcd : Yl σ c ≠ Yl σ d) {x t : Rat} (hx : (k : Rat) * x = (m.1 : Rat)) (ht : (k : Rat) * t = (Yl σ m : Rat)) :
    Jor.rt x (emb σ c) (emb σ d) t = if (if Yl σ c < Yl σ d then 0 < sdK k m c d else sdK k m c d < 0) then (if k * Yl σ c < Yl σ m then 1 else 0) - (if k * Yl σ d < Yl σ m then 1 else 0) else 0 := by
  have hk' : (0 : Rat) < (k : Rat) := by exact_mod_cast hk
  have hne : (emb σ c).2 ≠ (emb σ d).2 := fun e => hcd (cast_eq.1 e)
  have e := xat_cross hne x t
  have e2 : (Jor.xat (emb σ c) (emb σ d) t - x) * (((Yl σ d - Yl σ c : Int) : Rat) * (k : Rat)) = 134217728 * ((sdK k m c d : Int) : Rat) := by
    have q1 : ((Yl σ d - Yl σ c : Int) : Rat) = (emb σ d).2 - (emb σ c).2 := by unfold emb; push_cast; rfl
    have q2 : ((sdK k m c d : Int) : Rat) = ((d.1 : Rat) - c.1) * ((m.2 : Rat) - k * c.2) - ((d.2 : Rat) - c.2) * ((m.1 : Rat) - k * c.1) := by unfold sdK; push_cast; rfl
    have q3 : ∀ p : Pt, (Yl σ p : Rat) = 134217728 * (p.2 : Rat) - (σ : Rat) * (p.1 : Rat) := fun p => by unfold Yl; push_cast; rfl
    rw [q1, q2]
    unfold emb at e ⊢
    dsimp only at e ⊢
    rw [q3] at ht
    rw [q3, q3] at e ⊢
    grind
  have hiff : (x < Jor.xat (emb σ c) (emb σ d) t) ↔ (if Yl σ c < Yl σ d then 0 < sdK k m c d else sdK k m c d < 0) := by
    by_cases hlt : Yl σ c < Yl σ d
    · rw [if_pos hlt]
      have hd : (0 : Rat) < ((Yl σ d - Yl σ c : Int) : Rat) := by exact_mod_cast (show 0 < Yl σ d - Yl σ c by omega)
      have := rat_pos_iff (Rat.mul_pos hd hk') e2
      have h0 : (0 < sdK k m c d) ↔ (0 : Rat) < ((sdK k m c d : Int) : Rat) := by exact_mod_cast Iff.rfl
      rw [h0]; grind
    · rw [if_neg hlt]
      have hd : (0 : Rat) < ((Yl σ c - Yl σ d : Int) : Rat) := by exact_mod_cast (show 0 < Yl σ c - Yl σ d by omega)
      have q : ((Yl σ c - Yl σ d : Int) : Rat) = - ((Yl σ d - Yl σ c : Int) : Rat) := by push_cast; grind
      have := rat_pos_iff (p := Jor.xat (emb σ c) (emb σ d) t - x) (r := - (134217728 * ((sdK k m c d : Int) : Rat))) (Rat.mul_pos hd hk') (by rw [q]; grind)
      have h0 : (sdK k m c d < 0) ↔ ((sdK k m c d : Int) : Rat) < (0 : Rat) := by exact_mod_cast Iff.rfl
      rw [h0]; grind
  have b1 : Jor.sg (emb σ c) (emb σ d) t = (if k * Yl σ c < Yl σ m then 1 else 0) - (if k * Yl σ d < Yl σ m then 1 else 0) := by
    unfold Jor.sg
    rw [show (emb σ c).2 = (Yl σ c : Rat) from rfl, show (emb σ d).2 = (Yl σ d : Rat) from rfl, bl_cast hk ht, bl_cast hk ht]
  unfold Jor.rt
  rw [b1]
  by_cases hh : x < Jor.xat (emb σ c) (emb σ d) t
  · rw [if_pos hh, if_pos (hiff.1 hh)]
  · rw [if_neg hh, if_neg (fun h => hh (hiff.2 h))]
theorem core {σ k : Int} (hσ : σ = 1 ∨ σ = -1) (hk : k = 1 ∨ k = 2) {c d m : Pt} (hc : May c) (hd : May d) (hm : MayK k m) {x t : Rat} (hx : (k : Rat) * x = (m.1 : Rat)) (ht : (k : Rat) * t = (Yl σ m : Rat)) :
    Jor.rt x (emb σ c) (emb σ d) t = cntK σ k m c d := by
  by_cases hcd : Yl σ c = Yl σ d
  · have := Yl_inj hσ hc hd hcd
    subst this
    have h1 : Jor.rt x (emb σ c) (emb σ c) t = 0 := by unfold Jor.rt Jor.sg; split <;> omega
    have h2 : sdK k m c c = 0 := by unfold sdK; grind
    rw [h1]
    unfold cntK
    rw [h2, if_neg (by omega), if_neg (by omega)]
  · rw [rt_cast hσ (by omega) hcd hx ht]
    unfold May at hc hd
    unfold MayK at hm
    have p1 := prod_sign (d.2 - c.2) (k * c.1 - m.1)
    have p2 := prod_sign (d.2 - c.2) (k * d.1 - m.1)
    have s1 : m.2 = k * c.2 → sdK k m c d = (d.2 - c.2) * (k * c.1 - m.1) := fun h => by unfold sdK; rw [h]; grind
    have s2 : m.2 = k * d.2 → sdK k m c d = (d.2 - c.2) * (k * d.1 - m.1) := fun h => by unfold sdK; rw [h]; grind
    unfold cntK
    unfold Yl at *
    generalize sdK k m c d = s at *
    generalize (d.2 - c.2) * (k * c.1 - m.1) = z1 at *
    generalize (d.2 - c.2) * (k * d.1 - m.1) = z2 at *
    clear hx ht
    rcases hσ with rfl | rfl <;> rcases hk with rfl | rfl <;> simp only [Lo_one, Lo_neg] <;> (repeat' split) <;> omega
end Go.Proofs.Ythkmkmkcnljmaaa.Pl
