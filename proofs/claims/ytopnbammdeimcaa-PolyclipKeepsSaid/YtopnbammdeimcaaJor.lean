import Derived.Test.YtopnbammdeimcaaPre
namespace Go.Proofs.Ytopnbammdeimcaa.Jor
abbrev Q2 := Rat × Rat
def xat (a b : Q2) (t : Rat) : Rat := a.1 + (t - a.2) * ((b.1 - a.1) / (b.2 - a.2))
def bl (a t : Rat) : Int := if a < t then 1 else 0
def sg (a b : Q2) (t : Rat) : Int := bl a.2 t - bl b.2 t
def rt (x : Rat) (a b : Q2) (t : Rat) : Int := if x < xat a b t then sg a b t else 0
def spn (a b : Q2) (t : Rat) : Prop := (a.2 ≤ t ∧ t ≤ b.2) ∨ (b.2 ≤ t ∧ t ≤ a.2)
def gR (u v : Q2) (t1 t2 : Rat) (q : Q2) : Int := if t1 ≤ q.2 ∧ q.2 < t2 ∧ xat u v q.2 < q.1 then 1 else 0
theorem xat_a (a b : Q2) : xat a b a.2 = a.1 := by unfold xat; grind
theorem xat_b {a b : Q2} (h : a.2 ≠ b.2) : xat a b b.2 = b.1 := by
  unfold xat
  have h2 : b.2 - a.2 ≠ 0 := by grind
  have := Rat.div_mul_cancel (a := b.1 - a.1) h2
  grind
theorem xat_aff (a b : Q2) : ∃ p q : Rat, ∀ t, xat a b t = p + q * t :=
  ⟨a.1 - a.2 * ((b.1 - a.1) / (b.2 - a.2)), (b.1 - a.1) / (b.2 - a.2), fun t => by unfold xat; grind⟩
theorem aff_sign {p q s t : Rat} (h : ∀ r, (s ≤ r ∧ r ≤ t ∨ t ≤ r ∧ r ≤ s) → p + q * r ≠ 0) (hs : 0 < p + q * s) : 0 < p + q * t := by
  refine Rat.not_le.1 fun ht => ?_
  have hq : q ≠ 0 := by
    intro h0; subst h0; grind
  have e : (-p / q) * q = -p := Rat.div_mul_cancel hq
  generalize -p / q = r at e
  refine h r ?_ (by grind)
  rcases Rat.le_total (a := q) (b := 0) with h0 | h0
  · left
    constructor
    · refine Rat.not_lt.1 fun hr => ?_
      have := Rat.mul_nonneg (show 0 ≤ -q by grind) (show 0 ≤ s - r by grind)
      grind
    · refine Rat.not_lt.1 fun hr => ?_
      have := Rat.mul_pos (show 0 < -q by grind) (show 0 < r - t by grind)
      grind
  · right
    constructor
    · refine Rat.not_lt.1 fun hr => ?_
      have := Rat.mul_pos (show 0 < q by grind) (show 0 < t - r by grind)
      grind
    · refine Rat.not_lt.1 fun hr => ?_
      have := Rat.mul_nonneg h0 (show 0 ≤ r - s by grind)
      grind
theorem rt_tel {u v a b : Q2} {t1 t2 : Rat} (ht : t1 ≤ t2) (hab : a.2 ≠ b.2) (H : ∀ t, t1 ≤ t → t ≤ t2 → spn a b t → xat a b t ≠ xat u v t) :
    rt (xat u v t2) a b t2 - rt (xat u v t1) a b t1 = gR u v t1 t2 a - gR u v t1 t2 b := by
  obtain ⟨p, q, h1⟩ := xat_aff a b
  obtain ⟨r, s, h2⟩ := xat_aff u v
  have key : ∀ x y, t1 ≤ x → x ≤ t2 → t1 ≤ y → y ≤ t2 → spn a b x → spn a b y → xat u v x < xat a b x → xat u v y < xat a b y := by
    intro x y x1 x2 y1 y2 x3 y3 hx
    have := aff_sign (p := p - r) (q := q - s) (s := x) (t := y) (fun z hz => by
      have := H z (by grind) (by grind) (by unfold spn at *; grind)
      rw [h1, h2] at this
      grind) (by rw [h1, h2] at hx; grind)
    rw [h1, h2]; grind
  have ea := xat_a a b
  have eb := xat_b hab
  have sa : spn a b a.2 := by unfold spn; grind
  have sb : spn a b b.2 := by unfold spn; grind
  have k12 := key t1 t2
  have k21 := key t2 t1
  have k1a := key t1 a.2
  have ka1 := key a.2 t1
  have k2a := key t2 a.2
  have ka2 := key a.2 t2
  have k1b := key t1 b.2
  have kb1 := key b.2 t1
  have k2b := key t2 b.2
  have kb2 := key b.2 t2
  have kab := key a.2 b.2
  have kba := key b.2 a.2
  rw [ea] at *
  rw [eb] at *
  clear key H h1 h2
  unfold rt sg bl gR
  unfold spn at *
  grind
def sumN (f : Nat → Int) : Nat → Int
  | 0 => 0
  | n + 1 => sumN f n + f n
theorem sumN_congr {f g : Nat → Int} : ∀ {n : Nat}, (∀ j, j < n → f j = g j) → sumN f n = sumN g n
  | 0, _ => rfl
  | n + 1, h => by rw [sumN, sumN, sumN_congr fun j hj => h j (by omega), h n (by omega)]
theorem sumN_zero {f : Nat → Int} {n : Nat} (h : ∀ j, j < n → f j = 0) : sumN f n = 0 := by
  rw [sumN_congr (g := fun _ => 0) h]
  clear h
  induction n with
  | zero => rfl
  | succ n ih => rw [sumN, ih]; rfl
theorem sumN_sub (f g : Nat → Int) : ∀ n, sumN (fun j => f j - g j) n = sumN f n - sumN g n
  | 0 => rfl
  | n + 1 => by rw [sumN, sumN, sumN, sumN_sub f g n]; omega
theorem sumN_add (f g : Nat → Int) : ∀ n, sumN (fun j => f j + g j) n = sumN f n + sumN g n
  | 0 => rfl
  | n + 1 => by rw [sumN, sumN, sumN, sumN_add f g n]; omega
theorem sumN_tel (g : Nat → Int) : ∀ n, sumN (fun j => g j - g (j + 1)) n = g 0 - g n
  | 0 => by simp [sumN]
  | n + 1 => by rw [sumN, sumN_tel g n]; omega
theorem sumN_front (f : Nat → Int) : ∀ n, sumN f (n + 1) = f 0 + sumN (fun j => f (j + 1)) n
  | 0 => by simp [sumN]
  | n + 1 => by rw [sumN, sumN_front f n, sumN]; omega
theorem sumN_shift {f : Nat → Int} {n : Nat} (h : ∀ i, f (i + n) = f i) : ∀ k, sumN (fun j => f (k + j)) n = sumN f n
  | 0 => sumN_congr fun j _ => by rw [Nat.zero_add]
  | k + 1 => by
    rw [← sumN_shift h k]
    cases n with
    | zero => rfl
    | succ n =>
      rw [sumN_front (fun j => f (k + j)), sumN]
      have e := h k
      rw [show k + 1 + n = k + (n + 1) by omega, e]
      simp only [Nat.add_zero]
      have : sumN (fun j => f (k + 1 + j)) n = sumN (fun j => f (k + (j + 1))) n := sumN_congr fun j _ => by rw [show k + 1 + j = k + (j + 1) by omega]
      rw [this]; omega
theorem sumN_one {f : Nat → Int} {n k : Nat} (hk : k < n) (h : ∀ j, j < n → j ≠ k → f j = 0) : sumN f n = f k := by
  induction n with
  | zero => omega
  | succ n ih =>
    rw [sumN]
    by_cases e : k = n
    · subst e
      rw [sumN_zero fun j hj => h j (by omega) (by omega)]; omega
    · rw [ih (by omega) fun j hj => h j (by omega), h n (by omega) (by omega)]; omega
def W (n : Nat) (P : Nat → Q2) (x t : Rat) : Int := sumN (fun j => rt x (P j) (P (j + 1)) t) n
def ospn (a b : Q2) (t : Rat) : Prop := (a.2 < t ∧ t < b.2) ∨ (b.2 < t ∧ t < a.2)
structure Ring (n : Nat) (P : Nat → Q2) : Prop where
  three : 3 ≤ n
  per : ∀ i, P (i + n) = P i
  lev : ∀ i k, 0 < k → k < n → (P i).2 ≠ (P (i + k)).2
  nc : ∀ i k t, 0 < k → k < n → spn (P i) (P (i + 1)) t → spn (P (i + k)) (P (i + k + 1)) t → xat (P (i + k)) (P (i + k + 1)) t = xat (P i) (P (i + 1)) t → (k = 1 ∧ t = (P (i + 1)).2) ∨ (k + 1 = n ∧ t = (P i).2)
theorem Ring.lev1 {n : Nat} {P : Nat → Q2} (h : Ring n P) (i : Nat) : (P i).2 ≠ (P (i + 1)).2 := h.lev i 1 (by omega) (by have := h.three; omega)
theorem per_mul {n : Nat} {P : Nat → Q2} (h : ∀ i, P (i + n) = P i) (i : Nat) : ∀ q, P (i + n * q) = P i
  | 0 => rfl
  | q + 1 => by rw [Nat.mul_succ, ← Nat.add_assoc, h, per_mul h i q]
theorem Ring.same {n : Nat} {P : Nat → Q2} (h : Ring n P) {i m : Nat} (e : (P i).2 = (P m).2) : P i = P m := by
  have h3 := h.three
  have go : ∀ i m, i ≤ m → (P i).2 = (P m).2 → P i = P m := fun i m hle e => by
    have hm : P m = P (i + (m - i) % n) := by
      have := per_mul h.per (i + (m - i) % n) ((m - i) / n)
      rw [show i + (m - i) % n + n * ((m - i) / n) = m by have := Nat.mod_add_div (m - i) n; omega] at this
      exact this
    by_cases h0 : (m - i) % n = 0
    · rw [hm, h0]; rfl
    · exact (h.lev i _ (Nat.pos_of_ne_zero h0) (Nat.mod_lt _ (by omega)) (by rw [← hm]; exact e)).elim
  rcases Nat.le_total i m with hle | hle
  · exact go i m hle e
  · exact (go m i hle e.symm).symm
theorem W_shift {n : Nat} {P : Nat → Q2} (h : ∀ i, P (i + n) = P i) (x t : Rat) (i : Nat) : W n P x t = sumN (fun j => rt x (P (i + j)) (P (i + j + 1)) t) n :=
  (sumN_shift (f := fun j => rt x (P j) (P (j + 1)) t) (fun k => by
    show rt x (P (k + n)) (P (k + n + 1)) t = _
    rw [h k, show k + n + 1 = k + 1 + n by omega, h (k + 1)]) i).symm
theorem rt_self (a b : Q2) (t : Rat) : rt (xat a b t) a b t = 0 := by unfold rt; rw [if_neg (Rat.lt_irrefl)]
theorem along {n : Nat} {P : Nat → Q2} (h : Ring n P) {i : Nat} {t1 t2 : Rat} (ht : t1 ≤ t2) (h1 : ospn (P i) (P (i + 1)) t1) (h2 : ospn (P i) (P (i + 1)) t2) :
    W n P (xat (P i) (P (i + 1)) t1) t1 = W n P (xat (P i) (P (i + 1)) t2) t2 := by
  rw [W_shift h.per _ _ i, W_shift h.per _ _ i]
  have : sumN (fun j => rt (xat (P i) (P (i + 1)) t2) (P (i + j)) (P (i + j + 1)) t2) n - sumN (fun j => rt (xat (P i) (P (i + 1)) t1) (P (i + j)) (P (i + j + 1)) t1) n = 0 := by
    rw [← sumN_sub, sumN_congr (g := fun j => gR (P i) (P (i + 1)) t1 t2 (P (i + j)) - gR (P i) (P (i + 1)) t1 t2 (P (i + (j + 1)))), sumN_tel (fun j => gR (P i) (P (i + 1)) t1 t2 (P (i + j)))]
    · rw [h.per]; simp only [Nat.add_zero, Int.sub_self]
    · intro j hj
      by_cases h0 : j = 0
      · subst h0
        simp only [Nat.add_zero, Nat.zero_add]
        rw [rt_self, rt_self]
        unfold gR ospn at *
        grind
      · refine rt_tel ht (h.lev1 _) (fun t a1 a2 a3 a4 => ?_)
        have := h.nc i j t (by omega) hj (by unfold spn; unfold ospn at h1 h2; grind) a3 a4
        unfold ospn at h1 h2
        grind
  omega
theorem near {n : Nat} {P : Nat → Q2} (h : Ring n P) {i k : Nat} {t : Rat} {v : Q2} (hk : k = 1 ∧ v = P (i + 1) ∨ k + 1 = n ∧ v = P i) (ht : ospn (P i) (P (i + 1)) t)
    (hno : ∀ j, ¬ (t ≤ (P j).2 ∧ (P j).2 < v.2) ∧ ¬ (v.2 < (P j).2 ∧ (P j).2 ≤ t)) :
    W n P v.1 v.2 = W n P (xat (P i) (P (i + 1)) t) t - rt (xat (P i) (P (i + 1)) t) (P (i + k)) (P (i + k + 1)) t := by
  have h3 := h.three
  have hv : xat (P i) (P (i + 1)) v.2 = v.1 := by
    rcases hk with ⟨_, rfl⟩ | ⟨_, rfl⟩
    · exact xat_b (h.lev1 i)
    · exact xat_a _ _
  have hvs : spn (P i) (P (i + 1)) v.2 := by
    have := h.lev1 i
    unfold spn
    rcases hk with ⟨_, rfl⟩ | ⟨_, rfl⟩ <;> grind
  rw [W_shift h.per _ _ i, W_shift h.per _ _ i]
  have key : sumN (fun j => rt v.1 (P (i + j)) (P (i + j + 1)) v.2 - rt (xat (P i) (P (i + 1)) t) (P (i + j)) (P (i + j + 1)) t) n = 0 - rt (xat (P i) (P (i + 1)) t) (P (i + k)) (P (i + k + 1)) t := by
    have hvk : rt v.1 (P (i + k)) (P (i + k + 1)) v.2 = 0 := by
      unfold rt
      rw [if_neg]
      rcases hk with ⟨rfl, rfl⟩ | ⟨e, rfl⟩
      · rw [xat_a]; exact Rat.lt_irrefl
      · rw [show P i = P (i + k + 1) by rw [← h.per i]; congr 1; omega, xat_b (h.lev1 _)]; exact Rat.lt_irrefl
    refine (sumN_one (k := k) (by omega) (fun j hj hjk => ?_)).trans (by rw [hvk])
    by_cases h0 : j = 0
    · subst h0
      simp only [Nat.add_zero]
      rw [rt_self, ← hv, rt_self]; rfl
    · have H : ∀ τ, spn (P i) (P (i + 1)) τ → (t ≤ τ ∧ τ ≤ v.2 ∨ v.2 ≤ τ ∧ τ ≤ t) → spn (P (i + j)) (P (i + j + 1)) τ → xat (P (i + j)) (P (i + j + 1)) τ ≠ xat (P i) (P (i + 1)) τ := fun τ a1 a2 a3 a4 => by
        have := h.nc i j τ (by omega) hj a1 a3 a4
        unfold ospn at ht
        rcases hk with ⟨rfl, rfl⟩ | ⟨e, rfl⟩ <;> grind
      rcases Rat.le_total (a := t) (b := v.2) with hle | hle
      · have := rt_tel (u := P i) (v := P (i + 1)) hle (h.lev1 (i + j)) (fun τ a1 a2 a3 => H τ (by unfold spn ospn at *; grind) (.inl ⟨a1, a2⟩) a3)
        rw [hv] at this
        rw [this]
        have n1 := hno (i + j)
        have n2 := hno (i + j + 1)
        unfold gR
        rw [if_neg (by grind), if_neg (by grind)]; rfl
      · have := rt_tel (u := P i) (v := P (i + 1)) hle (h.lev1 (i + j)) (fun τ a1 a2 a3 => H τ (by unfold spn ospn at *; grind) (.inr ⟨a1, a2⟩) a3)
        rw [hv] at this
        have n1 := hno (i + j)
        have n2 := hno (i + j + 1)
        have g0 : ∀ q : Q2, ¬ (v.2 < q.2 ∧ q.2 ≤ t) → (q.2 = v.2 → q.1 = v.1) → gR (P i) (P (i + 1)) v.2 t q = 0 := fun q hq hq2 => by
          unfold gR
          rw [if_neg]
          rintro ⟨b1, b2, b3⟩
          have : q.2 = v.2 := by grind
          rw [this, hv, hq2 this] at b3
          exact Rat.lt_irrefl b3
        have hsame : ∀ m, (P m).2 = v.2 → (P m).1 = v.1 := fun m hm => by
          rcases hk with ⟨_, rfl⟩ | ⟨_, rfl⟩ <;> rw [h.same hm]
        rw [g0 _ n1.2 (hsame _), g0 _ n2.2 (hsame _)] at this
        omega
  rw [sumN_sub] at key
  omega
theorem lev_near (L : Nat → Rat) (v o : Rat) (h : v ≠ o) : ∀ n, ∃ t, (v < t ∧ t < o ∨ o < t ∧ t < v) ∧ ∀ j, j < n → ¬ (t ≤ L j ∧ L j < v) ∧ ¬ (v < L j ∧ L j ≤ t)
  | 0 => ⟨(v + o) / 2, by grind, fun j hj => by omega⟩
  | n + 1 => by
    obtain ⟨t, ht, hj⟩ := lev_near L v o h n
    by_cases hc : (t ≤ L n ∧ L n < v) ∨ (v < L n ∧ L n ≤ t)
    · refine ⟨(v + L n) / 2, by grind, fun j hjn => ?_⟩
      by_cases e : j = n
      · subst e; grind
      · have := hj j (by omega); grind
    · refine ⟨t, ht, fun j hjn => ?_⟩
      by_cases e : j = n
      · subst e; grind
      · exact hj j (by omega)
theorem Ring.near_lev {n : Nat} {P : Nat → Q2} (h : Ring n P) (v o : Rat) (hvo : v ≠ o) : ∃ t, (v < t ∧ t < o ∨ o < t ∧ t < v) ∧ ∀ j, ¬ (t ≤ (P j).2 ∧ (P j).2 < v) ∧ ¬ (v < (P j).2 ∧ (P j).2 ≤ t) := by
  have h3 := h.three
  obtain ⟨t, ht, hj⟩ := lev_near (fun j => (P j).2) v o hvo n
  refine ⟨t, ht, fun j => ?_⟩
  have := per_mul h.per (j % n) (j / n)
  rw [Nat.mod_add_div] at this
  rw [this]
  exact hj _ (Nat.mod_lt _ (by omega))
def dn (a b : Q2) : Int := if a.2 < b.2 then 0 else 1
theorem corner {n : Nat} {P : Nat → Q2} (h : Ring n P) (c : Nat) {t s : Rat} (ht : ospn (P c) (P (c + 1)) t) (hs : ospn (P (c + 1)) (P (c + 2)) s) :
    W n P (xat (P c) (P (c + 1)) t) t - dn (P c) (P (c + 1)) = W n P (xat (P (c + 1)) (P (c + 2)) s) s - dn (P (c + 1)) (P (c + 2)) := by
  have h3 := h.three
  have hl1 := h.lev1 c
  have hl2 : (P (c + 1)).2 ≠ (P (c + 2)).2 := h.lev1 (c + 1)
  have hne : ∀ τ, ospn (P c) (P (c + 1)) τ → ospn (P (c + 1)) (P (c + 2)) τ → xat (P (c + 1)) (P (c + 2)) τ ≠ xat (P c) (P (c + 1)) τ := fun τ b1 b2 b3 => by
    have := h.nc c 1 τ (by omega) (by omega) (by unfold spn; unfold ospn at b1; grind) (show spn (P (c + 1)) (P (c + 2)) τ by unfold spn; unfold ospn at b2; grind) b3
    unfold ospn at b1 b2
    grind
  have e1 : ∀ t', ospn (P c) (P (c + 1)) t' → (∀ j, ¬ (t' ≤ (P j).2 ∧ (P j).2 < (P (c + 1)).2) ∧ ¬ ((P (c + 1)).2 < (P j).2 ∧ (P j).2 ≤ t')) → W n P (xat (P c) (P (c + 1)) t) t = W n P (P (c + 1)).1 (P (c + 1)).2 + rt (xat (P c) (P (c + 1)) t') (P (c + 1)) (P (c + 2)) t' := fun t' o1 ht2 => by
    have a1 : W n P (xat (P c) (P (c + 1)) t) t = W n P (xat (P c) (P (c + 1)) t') t' := by
      rcases Rat.le_total (a := t) (b := t') with hle | hle
      · exact along h hle ht o1
      · exact (along h hle o1 ht).symm
    have e1 : W n P (P (c + 1)).1 (P (c + 1)).2 = W n P (xat (P c) (P (c + 1)) t') t' - rt (xat (P c) (P (c + 1)) t') (P (c + 1)) (P (c + 2)) t' := near h (i := c) (k := 1) (v := P (c + 1)) (.inl ⟨rfl, rfl⟩) o1 ht2
    omega
  have e2 : ∀ s', ospn (P (c + 1)) (P (c + 2)) s' → (∀ j, ¬ (s' ≤ (P j).2 ∧ (P j).2 < (P (c + 1)).2) ∧ ¬ ((P (c + 1)).2 < (P j).2 ∧ (P j).2 ≤ s')) → W n P (xat (P (c + 1)) (P (c + 2)) s) s = W n P (P (c + 1)).1 (P (c + 1)).2 + rt (xat (P (c + 1)) (P (c + 2)) s') (P c) (P (c + 1)) s' := fun s' o2 hs2 => by
    have a2 : W n P (xat (P (c + 1)) (P (c + 2)) s) s = W n P (xat (P (c + 1)) (P (c + 2)) s') s' := by
      rcases Rat.le_total (a := s) (b := s') with hle | hle
      · exact along h hle hs o2
      · exact (along h hle o2 hs).symm
    have e2 := near h (i := c + 1) (k := n - 1) (v := P (c + 1)) (.inr ⟨by omega, rfl⟩) o2 hs2
    rw [show P (c + 1 + (n - 1)) = P c by rw [show c + 1 + (n - 1) = c + n by omega, h.per], show P (c + 1 + (n - 1) + 1) = P (c + 1) by rw [show c + 1 + (n - 1) + 1 = c + 1 + n by omega, h.per]] at e2
    replace e2 : W n P (P (c + 1)).1 (P (c + 1)).2 = W n P (xat (P (c + 1)) (P (c + 2)) s') s' - rt (xat (P (c + 1)) (P (c + 2)) s') (P c) (P (c + 1)) s' := e2
    omega
  obtain ⟨t', ht', ht2⟩ := h.near_lev (P (c + 1)).2 (P c).2 (fun e => hl1 e.symm)
  have o1 : ospn (P c) (P (c + 1)) t' := by unfold ospn; grind
  have f1 := e1 t' o1 ht2
  have nt2 := ht2 (c + 2)
  by_cases hsame : ospn (P (c + 1)) (P (c + 2)) t'
  · have f2 := e2 t' hsame ht2
    have := hne t' o1 hsame
    rw [f1, f2]
    unfold rt sg bl dn
    unfold ospn at o1 hsame
    grind
  · obtain ⟨s', hs', hs2⟩ := h.near_lev (P (c + 1)).2 (P (c + 2)).2 hl2
    have o2 : ospn (P (c + 1)) (P (c + 2)) s' := by unfold ospn; grind
    have f2 := e2 s' o2 hs2
    have ns0 := hs2 c
    rw [f1, f2]
    unfold rt sg bl dn
    unfold ospn at o1 o2 hsame
    grind
theorem W_zero {n : Nat} {P : Nat → Q2} {x t : Rat} (h : ∀ j, t ≤ (P j).2) : W n P x t = 0 := by
  refine sumN_zero fun j _ => ?_
  have h1 := h j
  have h2 := h (j + 1)
  unfold rt sg bl
  grind
theorem argmin (f : Nat → Rat) (p : Nat → Prop) : ∀ n, (∃ j, j < n ∧ p j) → ∃ i, i < n ∧ p i ∧ ∀ j, j < n → p j → f i ≤ f j
  | 0, ⟨j, hj, _⟩ => by omega
  | n + 1, ⟨j, hj, hp⟩ => by
    by_cases hn : ∃ j, j < n ∧ p j
    · obtain ⟨i, hi, hpi, hmin⟩ := argmin f p n hn
      by_cases hc : p n ∧ f n < f i
      · refine ⟨n, by omega, hc.1, fun k hk hpk => ?_⟩
        by_cases e : k = n
        · subst e; exact Rat.le_refl
        · have := hmin k (by omega) hpk; grind
      · refine ⟨i, by omega, hpi, fun k hk hpk => ?_⟩
        by_cases e : k = n
        · subst e
          exact Rat.not_lt.1 fun hlt => hc ⟨hpk, hlt⟩
        · exact hmin k (by omega) hpk
    · have : j = n := by
        by_cases e : j = n
        · exact e
        · exact (hn ⟨j, by omega, hp⟩).elim
      subst this
      refine ⟨j, by omega, hp, fun k hk hpk => ?_⟩
      by_cases e : k = j
      · subst e; exact Rat.le_refl
      · exact (hn ⟨k, by omega, hpk⟩).elim
theorem all_of {n : Nat} {P : Nat → Q2} (hn : 0 < n) (h : ∀ i, P (i + n) = P i) {q : Q2 → Q2 → Prop} (hq : ∀ j, j < n → q (P j) (P (j + 1))) (j : Nat) : q (P j) (P (j + 1)) := by
  have e1 := per_mul h (j % n) (j / n)
  have e2 := per_mul h (j % n + 1) (j / n)
  rw [show j % n + 1 + n * (j / n) = j + 1 by have := Nat.mod_add_div j n; omega] at e2
  rw [Nat.mod_add_div] at e1
  rw [e1, e2]
  exact hq _ (Nat.mod_lt _ hn)
theorem kappa {n : Nat} {P : Nat → Q2} (h : Ring n P) : ∃ κ : Int, (κ = 0 ∨ κ = -1) ∧ ∀ i t, ospn (P i) (P (i + 1)) t → W n P (xat (P i) (P (i + 1)) t) t = κ + dn (P i) (P (i + 1)) := by
  have h3 := h.three
  obtain ⟨c, hc, _, hmin⟩ := argmin (fun j => (P j).2) (fun _ => True) n ⟨0, by omega, trivial⟩
  have hmin : ∀ j, (P c).2 ≤ (P j).2 := fun j => all_of (by omega) h.per (q := fun a _ => (P c).2 ≤ a.2) (fun j hj => hmin j hj trivial) j
  have hl1 := h.lev1 c
  obtain ⟨s, hs, hs2⟩ := h.near_lev (P c).2 (P (c + 1)).2 hl1
  have o2 : ospn (P c) (P (c + 1)) s := by unfold ospn; grind
  have e2 := near h (i := c) (k := n - 1) (v := P c) (.inr ⟨by omega, rfl⟩) o2 hs2
  rw [W_zero hmin] at e2
  have hz := hmin (c + 1)
  have hu := hmin (c + (n - 1))
  have hu2 := h.lev c (n - 1) (by omega) (by omega)
  have hun := hs2 (c + (n - 1))
  have eP : P (c + (n - 1) + 1) = P c := by rw [show c + (n - 1) + 1 = c + n by omega, h.per]
  rw [eP] at e2
  have hbase : W n P (xat (P c) (P (c + 1)) s) s = 0 ∨ W n P (xat (P c) (P (c + 1)) s) s = -1 := by
    have : rt (xat (P c) (P (c + 1)) s) (P (c + (n - 1))) (P c) s = 0 ∨ rt (xat (P c) (P (c + 1)) s) (P (c + (n - 1))) (P c) s = -1 := by
      unfold rt sg bl
      grind
    omega
  have hd : dn (P c) (P (c + 1)) = 0 := by unfold dn; grind
  refine ⟨W n P (xat (P c) (P (c + 1)) s) s, hbase, ?_⟩
  have go : ∀ j t, ospn (P (c + j)) (P (c + j + 1)) t → W n P (xat (P (c + j)) (P (c + j + 1)) t) t = W n P (xat (P c) (P (c + 1)) s) s + dn (P (c + j)) (P (c + j + 1)) := by
    intro j
    induction j with
    | zero =>
      intro t ht
      have ht : ospn (P c) (P (c + 1)) t := ht
      show W n P (xat (P c) (P (c + 1)) t) t = _ + dn (P c) (P (c + 1))
      rw [hd]
      rcases Rat.le_total (a := t) (b := s) with hle | hle
      · rw [along h hle ht o2]; omega
      · rw [along h hle o2 ht]; omega
    | succ j ih =>
      intro t ht
      have hl := h.lev1 (c + j)
      have ht : ospn (P (c + j + 1)) (P (c + j + 2)) t := ht
      have hm : ospn (P (c + j)) (P (c + j + 1)) (((P (c + j)).2 + (P (c + j + 1)).2) / 2) := by unfold ospn; grind
      have := corner h (c + j) hm ht
      have i2 := ih _ hm
      show W n P (xat (P (c + j + 1)) (P (c + j + 2)) t) t = _ + dn (P (c + j + 1)) (P (c + j + 2))
      omega
  intro i t ht
  obtain ⟨j, hj⟩ : ∃ j, c + j = i + n * c := ⟨i + n * c - c, by have : 1 * c ≤ n * c := Nat.mul_le_mul_right _ (by omega); omega⟩
  have e1 : P (c + j) = P i := by rw [hj, per_mul h.per]
  have e2 : P (c + j + 1) = P (i + 1) := by rw [hj, show i + n * c + 1 = i + 1 + n * c by omega, per_mul h.per]
  have := go j t
  rw [e1, e2] at this
  exact this ht
theorem off {n : Nat} {P : Nat → Q2} (h : Ring n P) {κ : Int} (hk : ∀ i t, ospn (P i) (P (i + 1)) t → W n P (xat (P i) (P (i + 1)) t) t = κ + dn (P i) (P (i + 1))) {x t : Rat} (hlev : ∀ j, (P j).2 ≠ t) : W n P x t = 0 ∨ W n P x t = κ ∨ W n P x t = κ + 1 := by
  have h3 := h.three
  by_cases hex : ∃ j, j < n ∧ (x < xat (P j) (P (j + 1)) t ∧ ospn (P j) (P (j + 1)) t)
  · obtain ⟨i, hi, ⟨hx, ho⟩, hmin⟩ := argmin (fun j => xat (P j) (P (j + 1)) t) (fun j => x < xat (P j) (P (j + 1)) t ∧ ospn (P j) (P (j + 1)) t) n hex
    have hmin : ∀ j, x < xat (P j) (P (j + 1)) t ∧ ospn (P j) (P (j + 1)) t → xat (P i) (P (i + 1)) t ≤ xat (P j) (P (j + 1)) t := fun j => all_of (by omega) h.per (q := fun a b => x < xat a b t ∧ ospn a b t → xat (P i) (P (i + 1)) t ≤ xat a b t) hmin j
    right
    have e : W n P x t = W n P (xat (P i) (P (i + 1)) t) t + sg (P i) (P (i + 1)) t := by
      rw [W_shift h.per x t i, W_shift h.per _ t i]
      have := sumN_sub (fun j => rt x (P (i + j)) (P (i + j + 1)) t) (fun j => rt (xat (P i) (P (i + 1)) t) (P (i + j)) (P (i + j + 1)) t) n
      rw [sumN_one (k := 0) (by omega)] at this
      · simp only [Nat.add_zero] at this
        rw [rt_self] at this
        have e3 : rt x (P i) (P (i + 1)) t = sg (P i) (P (i + 1)) t := by unfold rt; rw [if_pos hx]
        omega
      · intro j hj hj0
        by_cases hos : ospn (P (i + j)) (P (i + j + 1)) t
        · have hne : xat (P (i + j)) (P (i + j + 1)) t ≠ xat (P i) (P (i + 1)) t := fun e => by
            have := h.nc i j t (by omega) hj (by unfold spn; unfold ospn at ho; grind) (by unfold spn; unfold ospn at hos; grind) e
            have a1 := hlev (i + 1)
            have a2 := hlev i
            grind
          have hm := hmin (i + j)
          unfold rt
          grind
        · have a1 := hlev (i + j)
          have a2 := hlev (i + j + 1)
          unfold rt sg bl
          unfold ospn at hos
          grind
    have hk := hk i t ho
    unfold dn at hk
    unfold sg bl at e
    unfold ospn at ho
    grind
  · left
    refine sumN_zero fun j hj => ?_
    have a1 := hlev j
    have a2 := hlev (j + 1)
    have a3 : ¬ (x < xat (P j) (P (j + 1)) t ∧ ospn (P j) (P (j + 1)) t) := fun hh => hex ⟨j, hj, hh⟩
    unfold rt sg bl
    unfold ospn at a3
    grind
def Sx : List (Rat × Int) → Rat
  | [] => 0
  | (x, s) :: L => (s : Rat) * x + Sx L
def Ss : List (Rat × Int) → Int
  | [] => 0
  | (_, s) :: L => s + Ss L
def Rs (y : Rat) : List (Rat × Int) → Int
  | [] => 0
  | (x, s) :: L => (if y < x then s else 0) + Rs y L
theorem Sx_perm {L M : List (Rat × Int)} (h : L.Perm M) : Sx L = Sx M := by
  induction h with
  | nil => rfl
  | cons x _ ih => obtain ⟨x, s⟩ := x; rw [Sx, Sx, ih]
  | swap x y l => obtain ⟨x, s⟩ := x; obtain ⟨y, r⟩ := y; rw [Sx, Sx, Sx, Sx]; grind
  | trans _ _ h1 h2 => rw [h1, h2]
theorem Ss_perm {L M : List (Rat × Int)} (h : L.Perm M) : Ss L = Ss M := by
  induction h with
  | nil => rfl
  | cons x _ ih => obtain ⟨x, s⟩ := x; rw [Ss, Ss, ih]
  | swap x y l => obtain ⟨x, s⟩ := x; obtain ⟨y, r⟩ := y; rw [Ss, Ss, Ss, Ss]; omega
  | trans _ _ h1 h2 => rw [h1, h2]
theorem Rs_perm {L M : List (Rat × Int)} (y : Rat) (h : L.Perm M) : Rs y L = Rs y M := by
  induction h with
  | nil => rfl
  | cons x _ ih => obtain ⟨x, s⟩ := x; rw [Rs, Rs, ih]
  | swap x y l => obtain ⟨x, s⟩ := x; obtain ⟨y, r⟩ := y; rw [Rs, Rs, Rs, Rs]; omega
  | trans _ _ h1 h2 => rw [h1, h2]
theorem Rs_zero {y : Rat} : ∀ {L : List (Rat × Int)}, (∀ p ∈ L, p.1 ≤ y) → Rs y L = 0
  | [], _ => rfl
  | (x, s) :: L, h => by
    have h1 := h (x, s) (by simp)
    rw [Rs, Rs_zero fun p hp => h p (by simp [hp]), if_neg (Rat.not_lt.2 h1)]; rfl
theorem abel : ∀ (L : List (Rat × Int)) (r : Int) (Y : Rat), L.Pairwise (fun a b => b.1 ≤ a.1) → (∀ p ∈ L, p.1 ≤ Y) → r + Ss L = 0 → (∀ y, y < Y → (∀ p ∈ L, p.1 ≠ y) → 0 ≤ r + Rs y L) →
    0 ≤ (r : Rat) * Y + Sx L ∧ ((∃ y, y < Y ∧ (∀ p ∈ L, p.1 ≠ y) ∧ 0 < r + Rs y L) → 0 < (r : Rat) * Y + Sx L)
  | [], r, Y, _, _, hs, h => by
    have : r = 0 := by simpa [Ss] using hs
    subst this
    refine ⟨by simp only [Sx]; grind, ?_⟩
    rintro ⟨y, _, _, h3⟩
    simp [Rs] at h3
  | (x, s) :: L, r, Y, hp, hY, hs, h => by
    have hxY := hY (x, s) (by simp)
    have hp' := List.pairwise_cons.1 hp
    have hx : ∀ p ∈ L, p.1 ≤ x := hp'.1
    rw [Ss] at hs
    have ih := abel L (r + s) x hp'.2 hx (by omega) (fun y hy hL => by
      have := h y (by grind) (fun p hpm => by
        rcases List.mem_cons.1 hpm with e | e
        · subst e; grind
        · exact hL p e)
      rw [Rs, if_pos hy] at this
      omega)
    have hr : 0 ≤ (r : Rat) * (Y - x) ∧ (0 < r → x < Y → 0 < (r : Rat) * (Y - x)) := by
      constructor
      · by_cases e : x = Y
        · subst e; grind
        · have h0 : 0 ≤ r := by
            have := h ((x + Y) / 2) (by grind) (fun p hpm => by
              rcases List.mem_cons.1 hpm with e2 | e2
              · subst e2; grind
              · have := hx p e2; grind)
            rw [Rs, if_neg (by grind), Rs_zero fun p hpm => by have := hx p hpm; grind] at this
            omega
          exact Rat.mul_nonneg (by exact_mod_cast h0) (by grind)
      · intro h0 h1
        exact Rat.mul_pos (by exact_mod_cast h0) (by grind)
    have e : (r : Rat) * Y + Sx ((x, s) :: L) = (r : Rat) * (Y - x) + (((r + s : Int) : Rat) * x + Sx L) := by
      rw [Sx]
      have : ((r + s : Int) : Rat) = (r : Rat) + (s : Rat) := by push_cast; rfl
      rw [this]; grind
    rw [e]
    refine ⟨by have := ih.1; grind, ?_⟩
    rintro ⟨y, y1, y2, y3⟩
    by_cases hy : y < x
    · have := ih.2 ⟨y, hy, fun p hpm => y2 p (by simp [hpm]), by rw [Rs, if_pos hy] at y3; omega⟩
      grind
    · have hne := y2 (x, s) (by simp)
      rw [Rs, if_neg hy, Rs_zero fun p hpm => by have := hx p hpm; grind] at y3
      have := hr.2 (by omega) (by grind)
      have := ih.1
      grind
theorem signed (L : List (Rat × Int)) (hs : Ss L = 0) (h : ∀ y, (∀ p ∈ L, p.1 ≠ y) → 0 ≤ Rs y L) : 0 ≤ Sx L ∧ ((∃ y, (∀ p ∈ L, p.1 ≠ y) ∧ 0 < Rs y L) → 0 < Sx L) := by
  let le : Rat × Int → Rat × Int → Bool := fun a b => decide (b.1 ≤ a.1)
  have hperm := List.mergeSort_perm L le
  have hsort : (L.mergeSort le).Pairwise (fun a b => b.1 ≤ a.1) := (List.pairwise_mergeSort (le := le) (fun a b c h1 h2 => by simp only [le, decide_eq_true_eq] at *; grind) (fun a b => by simp only [le, Bool.or_eq_true, decide_eq_true_eq]; exact Rat.le_total) L).imp (fun h => by simpa [le] using h)
  rw [← Sx_perm hperm]
  rw [← Ss_perm hperm] at hs
  have h : ∀ y, (∀ p ∈ L.mergeSort le, p.1 ≠ y) → 0 ≤ Rs y (L.mergeSort le) := fun y hy => by
    rw [Rs_perm y hperm]
    exact h y fun p hp => hy p (hperm.mem_iff.2 hp)
  have h2 : (∃ y, (∀ p ∈ L, p.1 ≠ y) ∧ 0 < Rs y L) → ∃ y, (∀ p ∈ L.mergeSort le, p.1 ≠ y) ∧ 0 < Rs y (L.mergeSort le) := by
    rintro ⟨y, y1, y2⟩
    exact ⟨y, fun p hp => y1 p (hperm.mem_iff.1 hp), by rw [Rs_perm y hperm]; exact y2⟩
  generalize L.mergeSort le = M at *
  cases M with
  | nil =>
    refine ⟨Rat.le_refl, fun hh => ?_⟩
    obtain ⟨y, _, y2⟩ := h2 hh
    simp [Rs] at y2
  | cons p M =>
    have hall : ∀ q ∈ p :: M, q.1 ≤ p.1 := fun q hq => by
      rcases List.mem_cons.1 hq with e | e
      · subst e; exact Rat.le_refl
      · exact (List.pairwise_cons.1 hsort).1 q e
    have := abel (p :: M) 0 p.1 hsort hall (by omega) (fun y _ hy => by have := h y hy; omega)
    refine ⟨by have := this.1; grind, fun hh => ?_⟩
    obtain ⟨y, y1, y2⟩ := h2 hh
    have h3 : y < p.1 := by
      refine Rat.not_le.1 fun hle => ?_
      rw [Rs_zero fun q hq => by have := hall q hq; grind] at y2
      omega
    have := this.2 ⟨y, h3, y1, by omega⟩
    grind
def sumQ (f : Nat → Rat) : Nat → Rat
  | 0 => 0
  | n + 1 => sumQ f n + f n
theorem sumQ_congr {f g : Nat → Rat} : ∀ {n : Nat}, (∀ j, j < n → f j = g j) → sumQ f n = sumQ g n
  | 0, _ => rfl
  | n + 1, h => by rw [sumQ, sumQ, sumQ_congr fun j hj => h j (by omega), h n (by omega)]
theorem sumQ_sub (f g : Nat → Rat) : ∀ n, sumQ (fun j => f j - g j) n = sumQ f n - sumQ g n
  | 0 => by simp only [sumQ]; grind
  | n + 1 => by rw [sumQ, sumQ, sumQ, sumQ_sub f g n]; grind
theorem sumQ_mul (c : Rat) (f : Nat → Rat) : ∀ n, sumQ (fun j => c * f j) n = c * sumQ f n
  | 0 => by simp only [sumQ]; grind
  | n + 1 => by rw [sumQ, sumQ, sumQ_mul c f n]; grind
theorem sumQ_zero {f : Nat → Rat} {n : Nat} (h : ∀ j, j < n → f j = 0) : sumQ f n = 0 := by
  rw [sumQ_congr (g := fun _ => 0) h]
  clear h
  induction n with
  | zero => rfl
  | succ n ih => rw [sumQ, ih]; grind
def area2 (a b : Q2) : Rat := (a.1 + b.1) * (b.2 - a.2)
def hp (a b : Q2) (l t : Rat) : Rat := if l < t then (t - l) * (xat a b l + xat a b t) else 0
def ph (a b : Q2) (t : Rat) : Rat := hp a b a.2 t - hp a b b.2 t
theorem ph_lo {a b : Q2} {t : Rat} (h1 : t ≤ a.2) (h2 : t ≤ b.2) : ph a b t = 0 := by
  unfold ph hp; rw [if_neg (Rat.not_lt.2 h1), if_neg (Rat.not_lt.2 h2)]; grind
theorem hp_eq (a b : Q2) {l t : Rat} (h : l ≤ t) : hp a b l t = (t - l) * (xat a b l + xat a b t) := by
  unfold hp
  by_cases h2 : l < t
  · rw [if_pos h2]
  · rw [if_neg h2]
    have : l = t := by grind
    subst this; grind
theorem ph_hi {a b : Q2} {t : Rat} (h1 : a.2 ≤ t) (h2 : b.2 ≤ t) : ph a b t = area2 a b := by
  unfold ph
  rw [hp_eq a b h1, hp_eq a b h2]
  by_cases e : a.2 = b.2
  · unfold area2; rw [e]; grind
  · obtain ⟨p, q, hx⟩ := xat_aff a b
    have e1 := xat_a a b
    have e2 := xat_b e
    rw [hx] at e1 e2 ⊢
    rw [hx, hx]
    unfold area2
    rw [← e1, ← e2]
    grind
theorem ph_step {a b : Q2} {s t : Rat} (hst : s < t) (h1 : ¬ (s < a.2 ∧ a.2 < t)) (h2 : ¬ (s < b.2 ∧ b.2 < t)) : ph a b t - ph a b s = 2 * (t - s) * ((sg a b ((s + t) / 2) : Rat) * xat a b ((s + t) / 2)) := by
  obtain ⟨p, q, hx⟩ := xat_aff a b
  have go : ∀ l, ¬ (s < l ∧ l < t) → hp a b l t - hp a b l s = 2 * (t - s) * ((bl l ((s + t) / 2) : Rat) * xat a b ((s + t) / 2)) := fun l hl => by
    by_cases h : l ≤ s
    · rw [hp_eq a b (show l ≤ t by grind), hp_eq a b h]
      have : bl l ((s + t) / 2) = 1 := by unfold bl; rw [if_pos (by grind)]
      rw [this, hx, hx, hx, hx]
      grind
    · have : bl l ((s + t) / 2) = 0 := by unfold bl; rw [if_neg (by grind)]
      unfold hp
      rw [this, if_neg (by grind), if_neg (by grind)]
      grind
  have g1 := go a.2 h1
  have g2 := go b.2 h2
  unfold ph sg
  have : ((bl a.2 ((s + t) / 2) - bl b.2 ((s + t) / 2) : Int) : Rat) = (bl a.2 ((s + t) / 2) : Rat) - (bl b.2 ((s + t) / 2) : Rat) := by push_cast; rfl
  rw [this]
  grind
def S (n : Nat) (P : Nat → Q2) (t : Rat) : Rat := sumQ (fun j => ph (P j) (P (j + 1)) t) n
def area (n : Nat) (P : Nat → Q2) : Rat := sumQ (fun j => area2 (P j) (P (j + 1))) n
def lst (P : Nat → Q2) (w : Int) (m : Rat) : Nat → List (Rat × Int)
  | 0 => []
  | k + 1 => if sg (P k) (P (k + 1)) m = 0 then lst P w m k else (xat (P k) (P (k + 1)) m, w * sg (P k) (P (k + 1)) m) :: lst P w m k
theorem lst_Sx (P : Nat → Q2) (w : Int) (m : Rat) : ∀ n, Sx (lst P w m n) = (w : Rat) * sumQ (fun j => (sg (P j) (P (j + 1)) m : Rat) * xat (P j) (P (j + 1)) m) n
  | 0 => by simp only [lst, Sx, sumQ]; grind
  | n + 1 => by
    rw [lst, sumQ]
    by_cases h : sg (P n) (P (n + 1)) m = 0
    · rw [if_pos h, lst_Sx P w m n, h]; grind
    · rw [if_neg h, Sx, lst_Sx P w m n]
      have : ((w * sg (P n) (P (n + 1)) m : Int) : Rat) = (w : Rat) * (sg (P n) (P (n + 1)) m : Rat) := by push_cast; rfl
      rw [this]; grind
theorem lst_Ss (P : Nat → Q2) (w : Int) (m : Rat) : ∀ n, Ss (lst P w m n) = w * sumN (fun j => sg (P j) (P (j + 1)) m) n
  | 0 => by simp [lst, Ss, sumN]
  | n + 1 => by
    rw [lst, sumN]
    by_cases h : sg (P n) (P (n + 1)) m = 0
    · rw [if_pos h, lst_Ss P w m n, h]; grind
    · rw [if_neg h, Ss, lst_Ss P w m n]; grind
theorem lst_Rs (P : Nat → Q2) (w : Int) (m y : Rat) : ∀ n, Rs y (lst P w m n) = w * W n P y m
  | 0 => by simp [lst, Rs, W, sumN]
  | n + 1 => by
    have ih := lst_Rs P w m y n
    unfold W at ih ⊢
    rw [lst, sumN]
    unfold rt at *
    by_cases h : sg (P n) (P (n + 1)) m = 0
    · rw [if_pos h, ih, h]; grind
    · rw [if_neg h, Rs, ih]; grind
theorem lst_mem (P : Nat → Q2) (w : Int) (m : Rat) : ∀ n, ∀ p ∈ lst P w m n, ∃ j, j < n ∧ sg (P j) (P (j + 1)) m ≠ 0 ∧ p.1 = xat (P j) (P (j + 1)) m
  | 0, p, hp => by simp [lst] at hp
  | n + 1, p, hp => by
    rw [lst] at hp
    by_cases h : sg (P n) (P (n + 1)) m = 0
    · rw [if_pos h] at hp
      obtain ⟨j, hj, e⟩ := lst_mem P w m n p hp
      exact ⟨j, by omega, e⟩
    · rw [if_neg h] at hp
      rcases List.mem_cons.1 hp with e | e
      · exact ⟨n, by omega, h, by rw [e]⟩
      · obtain ⟨j, hj, e⟩ := lst_mem P w m n p e
        exact ⟨j, by omega, e⟩
theorem mem_lst (P : Nat → Q2) (w : Int) (m : Rat) : ∀ n j, j < n → sg (P j) (P (j + 1)) m ≠ 0 → ∃ p ∈ lst P w m n, p.1 = xat (P j) (P (j + 1)) m
  | 0, j, hj, _ => by omega
  | n + 1, j, hj, h => by
    rw [lst]
    by_cases e : j = n
    · subst e
      rw [if_neg h]
      exact ⟨_, List.mem_cons_self, rfl⟩
    · obtain ⟨p, hp, e2⟩ := mem_lst P w m n j (by omega) h
      refine ⟨p, ?_, e2⟩
      split
      · exact hp
      · exact List.mem_cons_of_mem _ hp
def Off (P : Nat → Q2) (x t : Rat) : Prop := (∀ j, (P j).2 ≠ t) ∧ ∀ j, ospn (P j) (P (j + 1)) t → xat (P j) (P (j + 1)) t ≠ x
theorem sg_ne {a b : Q2} {t : Rat} (h : sg a b t ≠ 0) (h1 : a.2 ≠ t) (h2 : b.2 ≠ t) : ospn a b t := by
  unfold sg bl at h
  unfold ospn
  grind
theorem ospn_sg {a b : Q2} {t : Rat} (h : ospn a b t) : sg a b t ≠ 0 := by
  unfold sg bl
  unfold ospn at h
  grind
section
variable {n : Nat} {P : Nat → Q2} (hn : 0 < n) (hper : ∀ i, P (i + n) = P i) {w : Int} (hw : w = 1 ∨ w = -1) (H : ∀ x t, Off P x t → 0 ≤ w * W n P x t)
include hn hper H
theorem level_sum {m : Rat} (hm : ∀ j, (P j).2 ≠ m) : 0 ≤ (w : Rat) * sumQ (fun j => (sg (P j) (P (j + 1)) m : Rat) * xat (P j) (P (j + 1)) m) n ∧ ((∃ y, Off P y m ∧ 0 < w * W n P y m) → 0 < (w : Rat) * sumQ (fun j => (sg (P j) (P (j + 1)) m : Rat) * xat (P j) (P (j + 1)) m) n) := by
  have hoff : ∀ y, (∀ p ∈ lst P w m n, p.1 ≠ y) → Off P y m := fun y hy => by
    refine ⟨hm, fun j => all_of hn hper (q := fun a b => ospn a b m → xat a b m ≠ y) (fun j hj ho => ?_) j⟩
    obtain ⟨p, hp, e⟩ := mem_lst P w m n j hj (ospn_sg ho)
    rw [← e]; exact hy p hp
  have := signed (lst P w m n) (by
    rw [lst_Ss]
    have : sumN (fun j => sg (P j) (P (j + 1)) m) n = 0 := by
      have := sumN_tel (fun j => bl (P j).2 m) n
      have e := hper 0
      rw [Nat.zero_add] at e
      rw [e, Int.sub_self] at this
      exact this
    rw [this]; simp) (fun y hy => by rw [lst_Rs]; exact H y m (hoff y hy))
  rw [lst_Sx] at this
  refine ⟨this.1, fun ⟨y, y1, y2⟩ => this.2 ⟨y, fun p hp e => ?_, by rw [lst_Rs]; exact y2⟩⟩
  obtain ⟨j, hj, h1, h2⟩ := lst_mem P w m n p hp
  exact y1.2 j (sg_ne h1 (hm j) (hm (j + 1))) (by rw [← h2, e])
theorem S_step {s t : Rat} (hst : s < t) (hno : ∀ j, ¬ (s < (P j).2 ∧ (P j).2 < t)) : 0 ≤ (w : Rat) * (S n P t - S n P s) ∧ ((∃ y, Off P y ((s + t) / 2) ∧ 0 < w * W n P y ((s + t) / 2)) → 0 < (w : Rat) * (S n P t - S n P s)) := by
  have hl := level_sum hn hper H (m := (s + t) / 2) (fun j e => by have := hno j; grind)
  have e : S n P t - S n P s = 2 * (t - s) * sumQ (fun j => (sg (P j) (P (j + 1)) ((s + t) / 2) : Rat) * xat (P j) (P (j + 1)) ((s + t) / 2)) n := by
    unfold S
    rw [← sumQ_sub, ← sumQ_mul]
    exact sumQ_congr fun j _ => ph_step hst (hno j) (hno (j + 1))
  rw [e]
  generalize sumQ (fun j => (sg (P j) (P (j + 1)) ((s + t) / 2) : Rat) * xat (P j) (P (j + 1)) ((s + t) / 2)) n = z at *
  refine ⟨?_, fun hh => ?_⟩
  · have := Rat.mul_nonneg (show 0 ≤ 2 * (t - s) by grind) hl.1
    grind
  · have := Rat.mul_pos (show 0 < 2 * (t - s) by grind) (hl.2 hh)
    grind
theorem S_mono : ∀ (Lv : List Rat) (s t : Rat), s ≤ t → (∀ j, s < (P j).2 → (P j).2 < t → (P j).2 ∈ Lv) → 0 ≤ (w : Rat) * (S n P t - S n P s)
  | [], s, t, hst, h => by
    by_cases e : s = t
    · subst e; grind
    · exact (S_step hn hper H (by grind) (fun j hj => by have := h j hj.1 hj.2; simp at this)).1
  | l :: Lv, s, t, hst, h => by
    by_cases hl : s < l ∧ l < t
    · have h1 := S_mono Lv s l (by grind) (fun j a1 a2 => by
        rcases List.mem_cons.1 (h j a1 (by grind)) with e | e
        · grind
        · exact e)
      have h2 := S_mono Lv l t (by grind) (fun j a1 a2 => by
        rcases List.mem_cons.1 (h j (by grind) a2) with e | e
        · grind
        · exact e)
      grind
    · exact S_mono Lv s t hst (fun j a1 a2 => by
        rcases List.mem_cons.1 (h j a1 a2) with e | e
        · grind
        · exact e)
end
theorem bounds (L : Nat → Rat) : ∀ n, ∃ s t, s ≤ t ∧ ∀ j, j < n → s ≤ L j ∧ L j ≤ t
  | 0 => ⟨0, 0, Rat.le_refl, fun j hj => by omega⟩
  | n + 1 => by
    obtain ⟨s, t, hst, h⟩ := bounds L n
    by_cases h1 : L n < s
    · refine ⟨L n, t, by grind, fun j hj => ?_⟩
      by_cases e : j = n
      · subst e; grind
      · have := h j (by omega); grind
    · by_cases h2 : t < L n
      · refine ⟨s, L n, by grind, fun j hj => ?_⟩
        by_cases e : j = n
        · subst e; grind
        · have := h j (by omega); grind
      · refine ⟨s, t, hst, fun j hj => ?_⟩
        by_cases e : j = n
        · subst e; grind
        · exact h j (by omega)
theorem area_sign {n : Nat} {P : Nat → Q2} (hn : 0 < n) (hper : ∀ i, P (i + n) = P i) {w : Int} (H : ∀ x t, Off P x t → 0 ≤ w * W n P x t) : 0 ≤ (w : Rat) * area n P ∧ ((∃ x t, Off P x t ∧ 0 < w * W n P x t) → 0 < (w : Rat) * area n P) := by
  obtain ⟨s, t, hst, hb⟩ := bounds (fun j => (P j).2) n
  have hb : ∀ j, s ≤ (P j).2 ∧ (P j).2 ≤ t := fun j => all_of hn hper (q := fun a _ => s ≤ a.2 ∧ a.2 ≤ t) hb j
  have hmem : ∀ j, (P j).2 ∈ (List.range n).map (fun j => (P j).2) := fun j => all_of hn hper (q := fun a _ => a.2 ∈ (List.range n).map (fun j => (P j).2)) (fun j hj => List.mem_map.2 ⟨j, List.mem_range.2 hj, rfl⟩) j
  have mono : ∀ a b, a ≤ b → 0 ≤ (w : Rat) * (S n P b - S n P a) := fun a b hab => S_mono hn hper H _ a b hab (fun j _ _ => hmem j)
  have e0 : S n P s = 0 := sumQ_zero fun j _ => ph_lo (hb j).1 (hb (j + 1)).1
  have e1 : S n P t = area n P := sumQ_congr fun j _ => ph_hi (hb j).2 (hb (j + 1)).2
  have h1 := mono s t hst
  rw [e0, e1] at h1
  refine ⟨by grind, ?_⟩
  rintro ⟨x, m, ho, hx⟩
  have hlo : ∃ d : Rat, 0 < d ∧ ∀ j, ¬ (m - d < (P j).2 ∧ (P j).2 < m + d) := by
    obtain ⟨t1, a1, a2⟩ := lev_near (fun j => (P j).2) m (m + 1) (by grind) n
    obtain ⟨t2, b1, b2⟩ := lev_near (fun j => (P j).2) m (m - 1) (by grind) n
    have a2 : ∀ j, ¬ (m < (P j).2 ∧ (P j).2 ≤ t1) := fun j => all_of hn hper (q := fun a _ => ¬ (m < a.2 ∧ a.2 ≤ t1)) (fun j hj => (a2 j hj).2) j
    have b2 : ∀ j, ¬ (t2 ≤ (P j).2 ∧ (P j).2 < m) := fun j => all_of hn hper (q := fun a _ => ¬ (t2 ≤ a.2 ∧ a.2 < m)) (fun j hj => (b2 j hj).1) j
    by_cases hd : t1 - m ≤ m - t2
    · refine ⟨t1 - m, by grind, fun j hj => ?_⟩
      have := a2 j; have := b2 j; have := ho.1 j
      grind
    · refine ⟨m - t2, by grind, fun j hj => ?_⟩
      have := a2 j; have := b2 j; have := ho.1 j
      grind
  obtain ⟨d, hd, hno⟩ := hlo
  have em : (m - d + (m + d)) / 2 = m := by grind
  have hs := (S_step hn hper H (s := m - d) (t := m + d) (by grind) hno).2 (by rw [em]; exact ⟨x, ho, hx⟩)
  have hbm : ∃ j, s < m ∧ m < t ∨ (s ≤ (P j).2 ∧ (P j).2 ≤ t) := ⟨0, .inr (hb 0)⟩
  -- all levels lie between s and t; below s and above t the sum stays
  have lowS : ∀ a, a ≤ s → S n P a = 0 := fun a ha => sumQ_zero fun j _ => ph_lo (by have := (hb j).1; grind) (by have := (hb (j + 1)).1; grind)
  have hiS : ∀ a, t ≤ a → S n P a = area n P := fun a ha => sumQ_congr fun j _ => ph_hi (by have := (hb j).2; grind) (by have := (hb (j + 1)).2; grind)
  have l1 : 0 ≤ (w : Rat) * S n P (m - d) := by
    by_cases hc : m - d ≤ s
    · rw [lowS _ hc]; grind
    · have := mono s (m - d) (by grind); rw [e0] at this; grind
  have l2 : 0 ≤ (w : Rat) * (area n P - S n P (m + d)) := by
    by_cases hc : t ≤ m + d
    · rw [hiS _ hc]; grind
    · have := mono (m + d) t (by grind); rw [e1] at this; grind
  grind
theorem both_sides {n : Nat} {P : Nat → Q2} (h : Ring n P) : ∃ v t x y, Off P x t ∧ Off P y t ∧ W n P y t = W n P v t ∧ W n P x t = W n P v t + sg (P 0) (P 1) t ∧ ospn (P 0) (P 1) t ∧ v = xat (P 0) (P 1) t := by
  have h3 := h.three
  obtain ⟨t, ht, hno⟩ := h.near_lev (P 0).2 (P 1).2 (h.lev1 0)
  have o : ospn (P 0) (P 1) t := by unfold ospn; grind
  have hlev : ∀ j, (P j).2 ≠ t := fun j e => by have := hno j; grind
  have hne : ∀ j, 0 < j → j < n → ospn (P j) (P (j + 1)) t → xat (P j) (P (j + 1)) t ≠ xat (P 0) (P 1) t := fun j hj0 hj hos e => by
    have := h.nc 0 j t hj0 hj (by unfold spn; unfold ospn at o; grind) (by rw [Nat.zero_add]; unfold spn; unfold ospn at hos; grind) (by rw [Nat.zero_add]; exact e)
    have a1 := hlev (0 + 1)
    have a2 := hlev 0
    grind
  have hoff : ∀ x, (∀ j, j < n → xat (P j) (P (j + 1)) t ≠ x) → Off P x t := fun x hx => ⟨hlev, fun j => all_of (by omega) h.per (q := fun a b => ospn a b t → xat a b t ≠ x) (fun j hj _ => hx j hj) j⟩
  obtain ⟨x, hx, hx2⟩ := lev_near (fun j => xat (P j) (P (j + 1)) t) (xat (P 0) (P 1) t) (xat (P 0) (P 1) t - 1) (by grind) n
  obtain ⟨y, hy, hy2⟩ := lev_near (fun j => xat (P j) (P (j + 1)) t) (xat (P 0) (P 1) t) (xat (P 0) (P 1) t + 1) (by grind) n
  refine ⟨_, t, x, y, hoff x (fun j hj e => by have := (hx2 j hj).1; grind), hoff y (fun j hj e => by have := (hy2 j hj).2; grind), ?_, ?_, o, rfl⟩
  · unfold W
    refine sumN_congr fun j hj => ?_
    have := (hy2 j hj).2
    unfold rt
    grind
  · have := sumN_sub (fun j => rt x (P j) (P (j + 1)) t) (fun j => rt (xat (P 0) (P 1) t) (P j) (P (j + 1)) t) n
    rw [sumN_one (k := 0) (by omega)] at this
    · have e3 : rt x (P 0) (P (0 + 1)) t - rt (xat (P 0) (P 1) t) (P 0) (P (0 + 1)) t = sg (P 0) (P 1) t := by
        have := rt_self (P 0) (P 1) t
        simp only [Nat.zero_add]
        rw [this]
        unfold rt
        rw [if_pos (by grind)]; omega
      unfold W
      omega
    · intro j hj hj0
      have e1 := (hx2 j hj).1
      have e2 := hne j (by omega) hj
      by_cases hos : ospn (P j) (P (j + 1)) t
      · have e2 := e2 hos
        unfold rt
        grind
      · have a1 := hlev j
        have a2 := hlev (j + 1)
        unfold rt sg bl
        unfold ospn at hos
        grind
theorem jordan {n : Nat} {P : Nat → Q2} (h : Ring n P) : ∃ w : Int, (w = 1 ∨ w = -1) ∧ 0 < (w : Rat) * area n P ∧ (∀ x t, (∀ j, (P j).2 ≠ t) → W n P x t = 0 ∨ W n P x t = w) ∧
    ∀ i t, ospn (P i) (P (i + 1)) t → 2 * W n P (xat (P i) (P (i + 1)) t) t = w - 1 + 2 * dn (P i) (P (i + 1)) := by
  have h3 := h.three
  obtain ⟨κ, hκ, hk⟩ := kappa h
  have hoff : ∀ x t, (∀ j, (P j).2 ≠ t) → W n P x t = 0 ∨ W n P x t = 2 * κ + 1 := fun x t ht => by
    have := off h hk (x := x) ht
    omega
  refine ⟨2 * κ + 1, by omega, ?_, hoff, fun i t ht => by have := hk i t ht; omega⟩
  refine (area_sign (by omega) h.per (fun x t ho => ?_)).2 ?_
  · rcases hoff x t ho.1 with e | e <;> rw [e]
    · omega
    · rcases hκ with rfl | rfl <;> decide
  · obtain ⟨v, t, x, y, o1, o2, e1, e2, o3, rfl⟩ := both_sides h
    have hk0 := hk 0 t o3
    simp only [Nat.zero_add] at hk0
    have hs : sg (P 0) (P 1) t = 1 - 2 * dn (P 0) (P 1) := by
      unfold sg bl dn
      unfold ospn at o3
      grind
    have hd : dn (P 0) (P 1) = 0 ∨ dn (P 0) (P 1) = 1 := by unfold dn; split <;> simp
    have hc : W n P x t = 2 * κ + 1 ∨ W n P y t = 2 * κ + 1 := by omega
    rcases hc with e | e
    · exact ⟨x, t, o1, by rw [e]; rcases hκ with rfl | rfl <;> decide⟩
    · exact ⟨y, t, o2, by rw [e]; rcases hκ with rfl | rfl <;> decide⟩
end Go.Proofs.Ytopnbammdeimcaa.Jor
