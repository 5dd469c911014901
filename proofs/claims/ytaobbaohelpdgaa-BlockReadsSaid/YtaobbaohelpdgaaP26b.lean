import Derived.Test.YtaobbaohelpdgaaP26a
namespace Go.Proofs.Ytaobbaohelpdgaa.Pl
set_option maxRecDepth 4000
theorem all_if {α : Type} (f : α → Bool) (l : List α) (d : α) {β : Type} (x y : β) : (if ∀ k, k < l.length → f (l.getD k d) = true then x else y) = if l.all f then x else y := by
  by_cases h : l.all f = true
  · rw [if_pos h, if_pos fun k hk => List.all_eq_true.1 h _ (getD_mem hk)]
  · rw [if_neg h, if_neg]
    intro h2
    apply h
    rw [List.all_eq_true]
    intro x hx
    obtain ⟨i, hi, e⟩ := mem_getD (d := d) hx
    rw [← e]; exact h2 i hi
theorem Check_l4 (x : Int) (l : List Int) (hl : l.length < 1000000000) : block_Check_l4 x l 0 = some (if l.all refP then .inl (ad x 1) else .inr (.inr 5)) := by
  have hb : ∀ k, k < l.length → block_Check_b4 x l (k : Int) = if refP (l.getD k 0) then some (.inl ((k + 1 : Nat) : Int)) else some (.inr (.inr (.inr 5))) := fun k hk => by
    unfold block_Check_b4
    rw [dlt hk, if_pos rfl, ix_getD 0 hk, bind_some', ad_one (by omega)]
    unfold block_ref refP
    generalize (decide (-65536 ≤ l.getD k 0) && decide (l.getD k 0 ≤ 65536)) = u
    cases u <;> rfl
  have := loopO_all (body := fun s => block_Check_b4 x l s) (fun k => (k : Int)) l.length (fun k => refP (l.getD k 0) = true) (.inl (ad x 1)) (.inr (.inr 5)) (fun k hk ho => by
    show block_Check_b4 _ _ _ = _
    rw [hb k hk, if_pos ho]) (fun k hk ho => by
    show block_Check_b4 _ _ _ = _
    rw [hb k hk, if_neg ho]) (by
    show block_Check_b4 _ _ _ = _
    unfold block_Check_b4
    rw [dnlt (Nat.lt_irrefl _), if_neg (by decide)]; rfl)
  rw [all_if] at this
  exact this
theorem Check_l3 (x : Int) (l : List (List Int)) (hl : l.length < 1000000000) (h2 : ∀ r ∈ l, r.length < 1000000000) : block_Check_l3 x l 0 = some (if l.all (fun r => r.all refP) then .inl (ad x 1) else .inr 5) := by
  have hb : ∀ k, k < l.length → block_Check_b3 x l (k : Int) = if (l.getD k []).all refP then some (.inl ((k + 1 : Nat) : Int)) else some (.inr (.inr 5)) := fun k hk => by
    unfold block_Check_b3
    rw [dlt hk, if_pos rfl, ix_getD [] hk, bind_some', Check_l4 _ _ (h2 _ (getD_mem hk)), ad_one (by omega)]
    split <;> rfl
  have := loopO_all (body := fun s => block_Check_b3 x l s) (fun k => (k : Int)) l.length (fun k => (fun r : List Int => r.all refP) (l.getD k []) = true) (.inl (ad x 1)) (.inr 5) (fun k hk ho => by
    show block_Check_b3 _ _ _ = _
    rw [hb k hk, if_pos ho]) (fun k hk ho => by
    show block_Check_b3 _ _ _ = _
    rw [hb k hk, if_neg ho]) (by
    show block_Check_b3 _ _ _ = _
    unfold block_Check_b3
    rw [dnlt (Nat.lt_irrefl _), if_neg (by decide)]; rfl)
  rw [all_if (fun r : List Int => r.all refP)] at this
  exact this
def refsP (n : NetP) : Bool := n.2.all (fun l => l.all fun r => r.all refP)
def Fits (n : NetP) : Prop := n.1.length < 1000000000 ∧ n.2.length < 1000000000 ∧ pointsN n < 1000000000 ∧ ringsN n.2 < 1000000000 ∧ refsNN n.2 < 1000000000
theorem le_sum {α : Type} (f : α → Nat) : ∀ (l : List α) {x : α}, x ∈ l → f x ≤ (l.map f).sum
  | y :: l, x, h => by
    simp only [List.map_cons, List.sum_cons]
    rcases List.mem_cons.1 h with rfl | h
    · omega
    · have := le_sum f l h; omega
theorem Fits.ring {n : NetP} (h : Fits n) {l : List (List Int)} (hl : l ∈ n.2) : l.length < 1000000000 ∧ ∀ r ∈ l, r.length < 1000000000 := by
  have h1 : l.length ≤ ringsN n.2 := le_sum List.length n.2 hl
  have h2 : refsN l ≤ refsNN n.2 := le_sum refsN n.2 hl
  refine ⟨by have := h.2.2.2.1; omega, fun r hr => ?_⟩
  have h3 : r.length ≤ refsN l := le_sum List.length l hr
  have := h.2.2.2.2; omega
theorem Check_l2 (n : NetP) (h : Fits n) : block_Check_l2 n 0 = some (if refsP n then 0 else 5) := by
  have hb : ∀ k, k < n.2.length → block_Check_b2 n (k : Int) = if (n.2.getD k []).all (fun r => r.all refP) then some (.inl ((k + 1 : Nat) : Int)) else some (.inr 5) := fun k hk => by
    unfold block_Check_b2
    have h1 := h.ring (getD_mem (d := []) hk)
    have := h.2.1
    rw [dlt hk, if_pos rfl, ix_getD [] hk, bind_some', Check_l3 _ _ h1.1 h1.2, ad_one (by omega)]
    split <;> rfl
  have := loopO_all (body := fun s => block_Check_b2 n s) (fun k => (k : Int)) n.2.length (fun k => (fun l : List (List Int) => l.all fun r => r.all refP) (n.2.getD k []) = true) (0 : Int) 5 (fun k hk ho => by
    show block_Check_b2 _ _ = _
    rw [hb k hk, if_pos ho]) (fun k hk ho => by
    show block_Check_b2 _ _ = _
    rw [hb k hk, if_neg ho]) (by
    show block_Check_b2 _ _ = _
    unfold block_Check_b2
    rw [dnlt (Nat.lt_irrefl _), if_neg (by decide)]; rfl)
  rw [all_if (fun l : List (List Int) => l.all fun r => r.all refP)] at this
  exact this
def checkP (n : NetP) : Int := if manyP n then 6 else if n.1.all arcP && refsP n then 0 else 5
theorem Check_eq (n : NetP) (h : Fits n) : block_Check n = some (checkP n) := by
  unfold block_Check
  rw [many_eq n h.2.2.1 h.2.2.2.1 h.2.2.2.2 h.2.1 h.1, bind_some']
  unfold checkP
  cases manyP n with
  | true => rfl
  | false =>
    rw [if_neg (by decide), if_neg (by decide)]
    have hb : ∀ k, k < n.1.length → block_Check_b1 n (k : Int) = if arcP (n.1.getD k ([], 0, 0)) then some (.inl ((k + 1 : Nat) : Int)) else some (.inr 5) := fun k hk => by
      unfold block_Check_b1
      have h1 : (n.1.getD k ([], 0, 0)).1.length ≤ pointsN n := le_sum (fun a => a.1.length) n.1 (getD_mem hk)
      have h2 := h.1; have h3 := h.2.2.1
      rw [dlt hk, if_pos rfl, ix_getD ([], 0, 0) hk, bind_some', Right_eq _ (by omega), ad_one (by omega)]
      unfold arcP block_side sideP
      generalize (n.1.getD k ([], 0, 0)).1.all mayP = x
      generalize (decide (0 ≤ (n.1.getD k ([], 0, 0)).2.1) && decide ((n.1.getD k ([], 0, 0)).2.1 ≤ 32)) = y
      generalize (decide (0 ≤ (n.1.getD k ([], 0, 0)).2.2) && decide ((n.1.getD k ([], 0, 0)).2.2 ≤ 32)) = z
      cases x <;> cases y <;> cases z <;> rfl
    have := loopO_all (body := fun s => block_Check_b1 n s) (fun k => (k : Int)) n.1.length (fun k => arcP (n.1.getD k ([], 0, 0)) = true) (if refsP n then (0 : Int) else 5) 5 (fun k hk ho => by
      show block_Check_b1 _ _ = _
      rw [hb k hk, if_pos ho]) (fun k hk ho => by
      show block_Check_b1 _ _ = _
      rw [hb k hk, if_neg ho]) (by
      show block_Check_b1 _ _ = _
      unfold block_Check_b1
      rw [dnlt (Nat.lt_irrefl _), if_neg (by decide), Check_l2 n h]; rfl)
    rw [all_if] at this
    refine (show block_Check_l1 n 0 = _ from this).trans ?_
    cases n.1.all arcP <;> rfl
def zig (n : Int) : Nat := if n < 0 then (2 * (-(n + 1)) + 1).toNat else (2 * n).toNat
theorem u64_w (n : Int) : IntKind.u64.wrap n = n % 18446744073709551616 := by simp [IntKind.wrap, IntKind.bits, IntKind.signed]
theorem xo_zero (x : Int) (h : 0 ≤ x ∧ x < 18446744073709551616) : xoK .u64 x 0 = x := by
  unfold xoK
  have e : (BitVec.ofInt 64 x ^^^ BitVec.ofInt 64 0) = BitVec.ofInt 64 x := by simp
  have e2 : (BitVec.ofInt IntKind.u64.bits x ^^^ BitVec.ofInt IntKind.u64.bits 0).toNat = x.toNat := by
    show (BitVec.ofInt 64 x ^^^ BitVec.ofInt 64 0).toNat = _
    rw [e, BitVec.toNat_ofInt]; omega
  rw [e2]
  rw [u64_w]; omega
theorem xo_ones (x : Int) (h : 0 ≤ x ∧ x < 18446744073709551616) : xoK .u64 x 18446744073709551615 = 18446744073709551615 - x := by
  unfold xoK
  have e : BitVec.ofInt 64 18446744073709551615 = BitVec.allOnes 64 := by decide
  have e2 : (BitVec.ofInt IntKind.u64.bits x ^^^ BitVec.ofInt IntKind.u64.bits 18446744073709551615).toNat = 18446744073709551615 - x.toNat := by
    show (BitVec.ofInt 64 x ^^^ BitVec.ofInt 64 18446744073709551615).toNat = _
    rw [e, BitVec.xor_allOnes, BitVec.toNat_not, BitVec.toNat_ofInt]; omega
  rw [e2, u64_w]; omega
theorem Zig_eq {n : Int} (h : I64 n) : varint_Zig n = some (zig n : Int) := by
  unfold varint_Zig slK srK
  unfold I64 at h
  rw [if_pos (by decide), bind_some', if_pos (by decide), bind_some']
  congr 1
  unfold zig
  show xoK .u64 (IntKind.u64.wrap (IntKind.u64.wrap n * 2)) (IntKind.u64.wrap (n / 9223372036854775808)) = _
  by_cases h0 : n < 0
  · have e1 : n / 9223372036854775808 = -1 := by omega
    have e2 : IntKind.u64.wrap (-1) = 18446744073709551615 := by rw [u64_w]; decide
    have e3 : IntKind.u64.wrap (IntKind.u64.wrap n * 2) = 18446744073709551616 + 2 * n := by rw [u64_w, u64_w]; omega
    rw [e1, e2, e3, xo_ones _ (by omega), if_pos h0]; omega
  · have e1 : n / 9223372036854775808 = 0 := by omega
    have e2 : IntKind.u64.wrap 0 = 0 := by rw [u64_w]; decide
    have e3 : IntKind.u64.wrap (IntKind.u64.wrap n * 2) = 2 * n := by rw [u64_w, u64_w]; omega
    rw [e1, e2, e3, xo_zero _ (by omega), if_neg h0]; omega
theorem zig_lt {n : Int} (h : I64 n) : zig n < 18446744073709551616 := by unfold zig; unfold I64 at h; split <;> omega
theorem turned_eq {k : Int} {out : List Int} (h : I64 k) (hl : out.length ≤ 999999900) : block_Bytes_2 k out = some (out ++ vb (zig k)) := by
  unfold block_Bytes_2
  have := vb_len (zig k)
  rw [Zig_eq h, bind_some', varint_eq (zig_lt h), bind_some', app_le (by omega)]; rfl
def stepPt (s : List Int × Pt) (p : Pt) : List Int × Pt := (s.1 ++ vb (zig (p.1 - s.2.1)) ++ vb (zig (p.2 - s.2.2)), p)
def stepArc (s : List Int × Pt) (a : (List Pt) × Int × Int) : List Int × Pt := a.1.foldl stepPt (s.1 ++ vb a.2.1.toNat ++ vb a.2.2.toNat ++ vb a.1.length, s.2)
def stepRef (out : List Int) (k : Int) : List Int := out ++ vb (zig k)
def stepRing (out : List Int) (r : List Int) : List Int := r.foldl stepRef (out ++ vb r.length)
def stepFace (out : List Int) (l : List (List Int)) : List Int := l.foldl stepRing (out ++ vb l.length)
def arcsB (n : NetP) : List Int × Pt := n.1.foldl stepArc (vb n.1.length, (0, 0))
def bytesP (n : NetP) : List Int := n.2.foldl stepFace ((arcsB n).1 ++ vb n.2.length)
theorem len_fold {α S : Type} (f : S → α → S) (m : S → Nat) (c : α → Nat) (h : ∀ s x, m (f s x) ≤ m s + c x) : ∀ (l : List α) (s : S), m (l.foldl f s) ≤ m s + (l.map c).sum
  | [], s => by simp
  | x :: l, s => by
    simp only [List.foldl_cons, List.map_cons, List.sum_cons]
    have := len_fold f m c h l (f s x); have := h s x; omega
theorem stepPt_len (s : List Int × Pt) (p : Pt) : (stepPt s p).1.length ≤ s.1.length + 20 := by
  have := vb_len (zig (p.1 - s.2.1)); have := vb_len (zig (p.2 - s.2.2))
  simp only [stepPt, List.length_append]; omega
theorem sum_const {α : Type} (c : Nat) (l : List α) : (l.map fun _ => c).sum = c * l.length := by
  induction l with
  | nil => rfl
  | cons x l ih => simp only [List.map_cons, List.sum_cons, ih, List.length_cons]; rw [Nat.mul_add]; omega
theorem pts_len (l : List Pt) (s : List Int × Pt) : (l.foldl stepPt s).1.length ≤ s.1.length + 20 * l.length := by
  have := len_fold stepPt (fun s => s.1.length) (fun _ => 20) (fun s x => stepPt_len s x) l s
  rw [sum_const] at this; exact this
theorem stepArc_len (s : List Int × Pt) (a : (List Pt) × Int × Int) : (stepArc s a).1.length ≤ s.1.length + (30 + 20 * a.1.length) := by
  have h1 := pts_len a.1 (s.1 ++ vb a.2.1.toNat ++ vb a.2.2.toNat ++ vb a.1.length, s.2)
  have := vb_len a.2.1.toNat; have := vb_len a.2.2.toNat; have := vb_len a.1.length
  simp only [List.length_append] at h1
  unfold stepArc; omega
theorem stepRef_len (s : List Int) (p : Int) : (stepRef s p).length ≤ s.length + 10 := by
  have := vb_len (zig p); simp only [stepRef, List.length_append]; omega
theorem stepRing_len (s : List Int) (r : List Int) : (stepRing s r).length ≤ s.length + (10 + 10 * r.length) := by
  have h1 := len_fold stepRef List.length (fun _ => 10) stepRef_len r (s ++ vb r.length)
  rw [sum_const, List.length_append] at h1
  have := vb_len r.length
  unfold stepRing; omega
theorem sum_lin {α : Type} (f : α → Nat) (c d : Nat) (l : List α) : (l.map fun x => c + d * f x).sum = c * l.length + d * (l.map f).sum := by
  induction l with
  | nil => rfl
  | cons x l ih => simp only [List.map_cons, List.sum_cons, ih, List.length_cons, Nat.mul_add]; omega
theorem stepFace_len (s : List Int) (l : List (List Int)) : (stepFace s l).length ≤ s.length + (10 + (10 * l.length + 10 * refsN l)) := by
  have h1 := len_fold stepRing List.length (fun r => 10 + 10 * r.length) stepRing_len l (s ++ vb l.length)
  rw [sum_lin, List.length_append] at h1
  have := vb_len l.length
  unfold stepFace refsN; omega
theorem arcs_len (l : List ((List Pt) × Int × Int)) (s : List Int × Pt) : (l.foldl stepArc s).1.length ≤ s.1.length + (30 * l.length + 20 * (l.map fun a => a.1.length).sum) := by
  have h1 := len_fold stepArc (fun s => s.1.length) (fun a => 30 + 20 * a.1.length) stepArc_len l s
  rw [sum_lin (fun a : (List Pt) × Int × Int => a.1.length)] at h1; exact h1
theorem sum_lin2 {α : Type} (f g : α → Nat) (c d e : Nat) (l : List α) : (l.map fun x => c + (d * f x + e * g x)).sum = c * l.length + (d * (l.map f).sum + e * (l.map g).sum) := by
  induction l with
  | nil => rfl
  | cons x l ih => simp only [List.map_cons, List.sum_cons, ih, List.length_cons, Nat.mul_add]; omega
theorem faces_len (l : List (List (List Int))) (s : List Int) : (l.foldl stepFace s).length ≤ s.length + (10 * l.length + (10 * ringsN l + 10 * refsNN l)) := by
  have h1 := len_fold stepFace List.length (fun l => 10 + (10 * l.length + 10 * refsN l)) stepFace_len l s
  rw [sum_lin2 List.length refsN] at h1; exact h1
end Go.Proofs.Ytaobbaohelpdgaa.Pl
