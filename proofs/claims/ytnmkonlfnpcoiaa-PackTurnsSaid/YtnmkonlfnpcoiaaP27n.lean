import Derived.Test.YtnmkonlfnpcoiaaSall
import Derived.Test.YtnmkonlfnpcoiaaLib
namespace Go.Proofs.Ytnmkonlfnpcoiaa.Pl
set_option maxRecDepth 4000
theorem take_all {α : Type} {l : List α} : l.take l.length = l := List.take_length
def vbF : Nat → Nat → List Int
  | 0, _ => []
  | f + 1, n => if n < 128 then [(n : Int)] else ((n % 128 + 128 : Nat) : Int) :: vbF f (n / 128)
def vb (n : Nat) : List Int := vbF 10 n
theorem vbF_len : ∀ (f n : Nat), (vbF f n).length ≤ f
  | 0, _ => Nat.le_refl _
  | f + 1, n => by
    unfold vbF
    split
    · simp
    · have := vbF_len f (n / 128); simp; omega
theorem vb_len (n : Nat) : (vb n).length ≤ 10 := vbF_len 10 n
theorem or_128 : ∀ m : Fin 256, orK .u8 (m.val : Int) 128 = ((m.val % 128 + 128 : Nat) : Int) := by decide +kernel
theorem or_more (n : Nat) : orK .u8 (IntKind.u8.wrap (n : Int)) 128 = ((n % 128 + 128 : Nat) : Int) := by
  have e : IntKind.u8.wrap (n : Int) = ((n % 256 : Nat) : Int) := by rw [IntKind.wrap_u8]; omega
  rw [e]
  have := or_128 ⟨n % 256, Nat.mod_lt _ (by omega)⟩
  simp only at this
  rw [this]; omega
theorem srK7 (n : Nat) : srK .u64 (n : Int) 7 = some ((n / 128 : Nat) : Int) := by
  unfold srK
  rw [if_pos (by decide)]
  congr 1
theorem varint_small (x : Int) (n : Nat) (out : List Int) (h : n < 128) (hl : out.length + 1 ≤ 1000000000) : varint_Bytes_b2_0 x out (n : Int) = some (.inr (.inl (out ++ [(n : Int)], ad x 1))) := by
  unfold varint_Bytes_b2_0
  have e : IntKind.u8.wrap (n : Int) = (n : Int) := IntWalk.u8_in _ (by omega)
  rw [decide_eq_true (show (n : Int) < 128 by omega), if_pos rfl, e, app_le (by simpa using hl)]; rfl
theorem varint_big (x : Int) (n : Nat) (out : List Int) (h : ¬ n < 128) (hl : out.length + 1 ≤ 1000000000) : varint_Bytes_b2_0 x out (n : Int) = some (.inl (out ++ [((n % 128 + 128 : Nat) : Int)], ((n / 128 : Nat) : Int))) := by
  unfold varint_Bytes_b2_0
  rw [decide_eq_false (show ¬ (n : Int) < 128 by omega), if_neg (by decide), or_more, app_le (by simpa using hl), bind_some', srK7]; rfl
theorem varint_l2 (x : Int) : ∀ (f n : Nat) (out : List Int), n < 128 ^ (f + 1) → out.length + f + 1 ≤ 1000000000 → varint_Bytes_l2 x (out, (n : Int)) = some (.inl (out ++ vbF (f + 1) n, ad x 1))
  | f, n, out, h, hl => by
    by_cases hn : n < 128
    · have e : vbF (f + 1) n = [(n : Int)] := by unfold vbF; rw [if_pos hn]
      rw [e]
      exact loopO_inr (varint_small x n out hn (by omega))
    · cases f with
      | zero => exact (hn (by simpa using h)).elim
      | succ f =>
        have e : vbF (f + 1 + 1) n = ((n % 128 + 128 : Nat) : Int) :: vbF (f + 1) (n / 128) := by rw [vbF, if_neg hn]
        unfold varint_Bytes_l2
        rw [e, loopO_inl (varint_big x n out hn (by omega))]
        have ih := varint_l2 x f (n / 128) (out ++ [((n % 128 + 128 : Nat) : Int)]) (by rw [Nat.pow_succ] at h; omega) (by simp; omega)
        rw [List.append_assoc] at ih
        exact ih
theorem varint_eq {n : Nat} (h : n < 18446744073709551616) : varint_Bytes [(n : Int)] = some (vb n) := by
  unfold varint_Bytes varint_Bytes_l1
  rw [loopO_inl (s' := (vb n, 1)) (by
    unfold varint_Bytes_b1
    show (if decide ((0 : Int) < 1) then _ else _) = _
    rw [if_pos (by decide)]
    show varint_Bytes_l2 0 ([], (n : Int)) = _
    rw [varint_l2 0 9 n [] (by omega) (by simp)]; rfl)]
  exact loopO_inr (by unfold varint_Bytes_b1; rfl)
theorem Same_eq (a b : List Int) (hl : a.length < 1000000000) : ref07_Same a b = some (decide (a = b)) := by
  unfold ref07_Same
  by_cases he : a.length = b.length
  · rw [show (!decide ((a.length : Int) = (b.length : Int))) = false by simp [he], if_neg (by decide)]
    have hb : ∀ k, k < a.length → ref07_Same_b1 a b (k : Int) = if a.getD k 0 = b.getD k 0 then some (.inl ((k + 1 : Nat) : Int)) else some (.inr false) := fun k hk => by
      unfold ref07_Same_b1
      rw [dlt hk, if_pos rfl, ix_getD 0 hk, bind_some', ix_getD 0 (by omega), bind_some', ad_one (by omega)]
      by_cases h : a.getD k 0 = b.getD k 0
      · rw [if_pos h, decide_eq_true h]; rfl
      · rw [if_neg h, decide_eq_false h]; rfl
    have := loopO_all (body := fun s => ref07_Same_b1 a b s) (fun k => (k : Int)) a.length (fun k => a.getD k 0 = b.getD k 0) true false (fun k hk ho => by
      show ref07_Same_b1 _ _ _ = _
      rw [hb k hk, if_pos ho]) (fun k hk ho => by
      show ref07_Same_b1 _ _ _ = _
      rw [hb k hk, if_neg ho]) (by
      show ref07_Same_b1 _ _ _ = _
      unfold ref07_Same_b1
      rw [dnlt (Nat.lt_irrefl _), if_neg (by decide)]; rfl)
    refine (show ref07_Same_l1 a b 0 = _ from this).trans ?_
    congr 1
    rw [Bool.eq_iff_iff, decide_eq_true_iff]
    constructor
    · intro h
      split at h
      · rename_i h1; exact ext_getD 0 he h1
      · cases h
    · intro h
      subst h
      rw [if_pos fun _ _ => rfl]
  · rw [show (!decide ((a.length : Int) = (b.length : Int))) = true by simp; omega, if_pos rfl, decide_eq_false fun e => he (by rw [e])]
theorem u64_w (n : Int) : IntKind.u64.wrap n = n % 18446744073709551616 := by simp [IntKind.wrap, IntKind.bits, IntKind.signed]
theorem rm_mod (x : Int) (b : Nat) (hb : 0 < b) : ∃ k : Nat, k < b ∧ rmK (IntKind.u64.wrap x) (b : Int) = some (k : Int) := by
  refine ⟨((x % 18446744073709551616) % (b : Int)).toNat, ?_, ?_⟩
  · have := Int.emod_lt_of_pos (x % 18446744073709551616) (show (0 : Int) < b by omega)
    have := Int.emod_nonneg (x % 18446744073709551616) (show (b : Int) ≠ 0 by omega)
    omega
  · unfold rmK
    rw [if_neg (by omega), u64_w]
    have h0 : 0 ≤ x % 18446744073709551616 := by omega
    have := Int.emod_nonneg (x % 18446744073709551616) (show (b : Int) ≠ 0 by omega)
    rw [Int.tmod_eq_emod_of_nonneg h0]
    congr 1; omega
theorem vb_pos (n : Nat) : 0 < (vb n).length := by
  unfold vb
  rw [vbF]
  split <;> simp
end Go.Proofs.Ytnmkonlfnpcoiaa.Pl
