import Derived.Test.YtaobbaohelpdgaaSall
import Derived.Test.YtaobbaohelpdgaaLib
namespace Go.Proofs.Ytaobbaohelpdgaa.Pl
set_option maxRecDepth 4000
abbrev Pt := Int × Int
abbrev NetP := (List ((List (Int × Int)) × Int × Int)) × (List (List (List Int)))
theorem take_all {α : Type} {l : List α} : l.take l.length = l := List.take_length
theorem foldl_snoc {α S : Type} (f : S → α → S) (s : S) (l : List α) {k : Nat} (d : α) (h : k < l.length) : (l.take (k + 1)).foldl f s = f ((l.take k).foldl f s) (l.getD k d) := by
  rw [snoc_take d h, List.foldl_append]; rfl
def vbF : Nat → Nat → List Int
  | 0, _ => []
  | f + 1, n => if n < 128 then [(n : Int)] else ((n % 128 + 128 : Nat) : Int) :: vbF f (n / 128)
def vb (n : Nat) : List Int := vbF 10 n
theorem vbF_len : ∀ (f n : Nat), (vbF f n).length ≤ f
  | 0, _ => Nat.le_refl _
  | f + 1, n => by
    unfold vbF
    split
    · simp
    · have := vbF_len f (n / 128); simp; omega
theorem vb_len (n : Nat) : (vb n).length ≤ 10 := vbF_len 10 n
theorem or_128 : ∀ m : Fin 256, orK .u8 (m.val : Int) 128 = ((m.val % 128 + 128 : Nat) : Int) := by decide +kernel
theorem or_more (n : Nat) : orK .u8 (IntKind.u8.wrap (n : Int)) 128 = ((n % 128 + 128 : Nat) : Int) := by
  have e : IntKind.u8.wrap (n : Int) = ((n % 256 : Nat) : Int) := by rw [IntKind.wrap_u8]; omega
  rw [e]
  have := or_128 ⟨n % 256, Nat.mod_lt _ (by omega)⟩
  simp only at this
  rw [this]; omega
theorem srK7 (n : Nat) : srK .u64 (n : Int) 7 = some ((n / 128 : Nat) : Int) := by
  unfold srK
  rw [if_pos (by decide)]
  congr 1
theorem varint_small (x : Int) (n : Nat) (out : List Int) (h : n < 128) (hl : out.length + 1 ≤ 1000000000) : varint_Bytes_b2_0 x out (n : Int) = some (.inr (.inl (out ++ [(n : Int)], ad x 1))) := by
  unfold varint_Bytes_b2_0
  have e : IntKind.u8.wrap (n : Int) = (n : Int) := IntWalk.u8_in _ (by omega)
  rw [decide_eq_true (show (n : Int) < 128 by omega), if_pos rfl, e, app_le (by simpa using hl)]; rfl
theorem varint_big (x : Int) (n : Nat) (out : List Int) (h : ¬ n < 128) (hl : out.length + 1 ≤ 1000000000) : varint_Bytes_b2_0 x out (n : Int) = some (.inl (out ++ [((n % 128 + 128 : Nat) : Int)], ((n / 128 : Nat) : Int))) := by
  unfold varint_Bytes_b2_0
  rw [decide_eq_false (show ¬ (n : Int) < 128 by omega), if_neg (by decide), or_more, app_le (by simpa using hl), bind_some', srK7]; rfl
theorem varint_l2 (x : Int) : ∀ (f n : Nat) (out : List Int), n < 128 ^ (f + 1) → out.length + f + 1 ≤ 1000000000 → varint_Bytes_l2 x (out, (n : Int)) = some (.inl (out ++ vbF (f + 1) n, ad x 1))
  | f, n, out, h, hl => by
    by_cases hn : n < 128
    · have e : vbF (f + 1) n = [(n : Int)] := by unfold vbF; rw [if_pos hn]
      rw [e]
      exact loopO_inr (varint_small x n out hn (by omega))
    · cases f with
      | zero => exact (hn (by simpa using h)).elim
      | succ f =>
        have e : vbF (f + 1 + 1) n = ((n % 128 + 128 : Nat) : Int) :: vbF (f + 1) (n / 128) := by rw [vbF, if_neg hn]
        unfold varint_Bytes_l2
        rw [e, loopO_inl (varint_big x n out hn (by omega))]
        have ih := varint_l2 x f (n / 128) (out ++ [((n % 128 + 128 : Nat) : Int)]) (by rw [Nat.pow_succ] at h; omega) (by simp; omega)
        rw [List.append_assoc] at ih
        exact ih
theorem varint_eq {n : Nat} (h : n < 18446744073709551616) : varint_Bytes [(n : Int)] = some (vb n) := by
  unfold varint_Bytes varint_Bytes_l1
  rw [loopO_inl (s' := (vb n, 1)) (by
    unfold varint_Bytes_b1
    show (if decide ((0 : Int) < 1) then _ else _) = _
    rw [if_pos (by decide)]
    show varint_Bytes_l2 0 ([], (n : Int)) = _
    rw [varint_l2 0 9 n [] (by omega) (by simp)]; rfl)]
  exact loopO_inr (by unfold varint_Bytes_b1; rfl)
theorem put_eq {k : Nat} {out : List Int} (h : k < 18446744073709551616) (hl : out.length ≤ 999999900) : block_Bytes_1 (k : Int) out = some (out ++ vb k) := by
  unfold block_Bytes_1
  have e : IntKind.u64.wrap (k : Int) = (k : Int) := IntWalk.u64_in _ (by omega)
  have := vb_len k
  rw [e, varint_eq h, bind_some', app_le (by omega)]; rfl
def refsN (l : List (List Int)) : Nat := (l.map List.length).sum
theorem sum_snoc {α : Type} (f : α → Nat) (l : List α) {k : Nat} (d : α) (h : k < l.length) : ((l.take (k + 1)).map f).sum = ((l.take k).map f).sum + f (l.getD k d) := by
  rw [snoc_take d h]; simp
theorem sum_le {α : Type} (f : α → Nat) : ∀ (l : List α) (k : Nat), ((l.take k).map f).sum ≤ (l.map f).sum
  | [], k => by simp
  | x :: l, 0 => by simp
  | x :: l, k + 1 => by simp only [List.take_succ_cons, List.map_cons, List.sum_cons]; have := sum_le f l k; omega
theorem many_l3 (rings x : Int) (l : List (List Int)) (r : Nat) (h : r + refsN l ≤ 1000000000) (hl : l.length < 1000000000) : block_many_l3 rings x l ((r : Int), 0) = some (.inl (ad rings (l.length : Int), ((r + refsN l : Nat) : Int), ad x 1)) := by
  have := loopO_nat (body := fun s => block_many_b3 rings x l s.1 s.2) (fun k => (((r + ((l.take k).map List.length).sum : Nat) : Int), (k : Int))) l.length (.inl (ad rings (l.length : Int), ((r + refsN l : Nat) : Int), ad x 1)) (fun k hk => by
    show block_many_b3 _ _ _ _ _ = _
    unfold block_many_b3
    have h1 := sum_snoc List.length l [] hk
    have h2 := sum_le List.length l (k + 1)
    have h3 : refsN l = (l.map List.length).sum := rfl
    rw [dlt hk, if_pos rfl, ix_getD [] hk, bind_some', ad_in (by omega), ad_one (by omega), ← Int.natCast_add, h1, Nat.add_assoc]) (by
    show block_many_b3 _ _ _ _ _ = _
    unfold block_many_b3
    rw [dnlt (Nat.lt_irrefl _), if_neg (by decide), take_all]; rfl)
  simpa [block_many_l3] using this
def pointsN (n : NetP) : Nat := (n.1.map fun a => a.1.length).sum
def ringsN (l : List (List (List Int))) : Nat := (l.map List.length).sum
def refsNN (l : List (List (List Int))) : Nat := (l.map refsN).sum
def manyP (n : NetP) : Bool := decide (65536 < n.1.length) || decide (65536 < pointsN n) || decide (32 < n.2.length) || decide (64 < ringsN n.2) || decide (65536 < refsNN n.2)
theorem dN {a b : Nat} : decide ((a : Int) < (b : Int)) = decide (a < b) := by simp
theorem many_l2 (n : NetP) (p : Nat) (h1 : ringsN n.2 < 1000000000) (h2 : refsNN n.2 < 1000000000) (hl : n.2.length < 1000000000) :
    block_many_l2 n (p : Int) (0, 0, 0) = some (decide (65536 < n.1.length) || decide (65536 < p) || decide (32 < n.2.length) || decide (64 < ringsN n.2) || decide (65536 < refsNN n.2)) := by
  have := loopO_nat (body := fun s => block_many_b2 n (p : Int) s.1 s.2.1 s.2.2) (fun k => (((ringsN (n.2.take k) : Nat) : Int), ((refsNN (n.2.take k) : Nat) : Int), (k : Int))) n.2.length (decide (65536 < n.1.length) || decide (65536 < p) || decide (32 < n.2.length) || decide (64 < ringsN n.2) || decide (65536 < refsNN n.2)) (fun k hk => by
    show block_many_b2 _ _ _ _ _ = _
    unfold block_many_b2
    have e1 : ringsN (n.2.take (k + 1)) = ringsN (n.2.take k) + (n.2.getD k []).length := sum_snoc List.length n.2 [] hk
    have e2 : refsNN (n.2.take (k + 1)) = refsNN (n.2.take k) + refsN (n.2.getD k []) := sum_snoc refsN n.2 [] hk
    have e3 : ringsN (n.2.take (k + 1)) ≤ ringsN n.2 := sum_le List.length n.2 (k + 1)
    have e4 : refsNN (n.2.take (k + 1)) ≤ refsNN n.2 := sum_le refsN n.2 (k + 1)
    rw [dlt hk, if_pos rfl, ix_getD [] hk, bind_some', many_l3 _ _ _ _ (by omega) (by omega), ad_in (by omega), ad_one (by omega), ← Int.natCast_add, ← e1, ← e2]) (by
    show block_many_b2 _ _ _ _ _ = _
    unfold block_many_b2
    rw [dnlt (Nat.lt_irrefl _), if_neg (by decide), take_all]
    simp only [bind_some', Option.map_some]
    have q1 : decide ((65536 : Int) < (n.1.length : Int)) = decide (65536 < n.1.length) := dN (a := 65536)
    have q2 : decide ((65536 : Int) < (p : Int)) = decide (65536 < p) := dN (a := 65536)
    have q3 : decide ((32 : Int) < (n.2.length : Int)) = decide (32 < n.2.length) := dN (a := 32)
    have q4 : decide ((64 : Int) < (ringsN n.2 : Int)) = decide (64 < ringsN n.2) := dN (a := 64)
    have q5 : decide ((65536 : Int) < (refsNN n.2 : Int)) = decide (65536 < refsNN n.2) := dN (a := 65536)
    rw [q1, q2, q3, q4, q5])
  simpa [block_many_l2, ringsN, refsNN] using this
theorem many_eq (n : NetP) (h0 : pointsN n < 1000000000) (h1 : ringsN n.2 < 1000000000) (h2 : refsNN n.2 < 1000000000) (hl : n.2.length < 1000000000) (hl1 : n.1.length < 1000000000) : block_many n = some (manyP n) := by
  have := loopO_nat (body := fun s => block_many_b1 n s.1 s.2) (fun k => ((((((n.1.take k).map fun a => a.1.length).sum) : Nat) : Int), (k : Int))) n.1.length (manyP n) (fun k hk => by
    show block_many_b1 _ _ _ = _
    unfold block_many_b1
    have e1 := sum_snoc (fun a => a.1.length) n.1 ([], 0, 0) hk
    have e3 : ((n.1.take (k + 1)).map fun a => a.1.length).sum ≤ pointsN n := sum_le (fun a => a.1.length) n.1 (k + 1)
    rw [dlt hk, if_pos rfl, ix_getD ([], 0, 0) hk, bind_some', ad_in (by omega), ad_one (by omega), ← Int.natCast_add, ← e1]) (by
    show block_many_b1 _ _ _ = _
    unfold block_many_b1
    rw [dnlt (Nat.lt_irrefl _), if_neg (by decide), take_all]
    have := many_l2 n (pointsN n) h1 h2 hl
    unfold pointsN at this
    rw [this]; rfl)
  simpa [block_many, block_many_l1] using this
def mayP (p : Pt) : Bool := decide (-16777216 ≤ p.1) && decide (p.1 ≤ 16777216) && (decide (-16777216 ≤ p.2) && decide (p.2 ≤ 16777216))
def sideP (n : Int) : Bool := decide (0 ≤ n) && decide (n ≤ 32)
def refP (n : Int) : Bool := decide (-65536 ≤ n) && decide (n ≤ 65536)
def arcP (a : (List Pt) × Int × Int) : Bool := sideP a.2.1 && sideP a.2.2 && a.1.all mayP
theorem Right_eq (l : List Pt) (hl : l.length < 1000000000) : exact_Right l = some (l.all mayP) := by
  have hb : ∀ k, k < l.length → exact_Right_b1 l (k : Int) = if mayP (l.getD k (0, 0)) then some (.inl ((k + 1 : Nat) : Int)) else some (.inr false) := fun k hk => by
    unfold exact_Right_b1
    rw [dlt hk, if_pos rfl, ix_getD (0, 0) hk, bind_some', ad_one (by omega)]
    unfold exact_within mayP
    generalize (decide (-16777216 ≤ (l.getD k (0, 0)).1) && decide ((l.getD k (0, 0)).1 ≤ 16777216)) = u
    generalize (decide (-16777216 ≤ (l.getD k (0, 0)).2) && decide ((l.getD k (0, 0)).2 ≤ 16777216)) = v
    cases u <;> cases v <;> rfl
  have := loopO_all (body := fun s => exact_Right_b1 l s) (fun k => (k : Int)) l.length (fun k => mayP (l.getD k (0, 0)) = true) true false (fun k hk ho => by
    show exact_Right_b1 _ _ = _
    rw [hb k hk, if_pos ho]) (fun k hk ho => by
    show exact_Right_b1 _ _ = _
    rw [hb k hk, if_neg ho]) (by
    show exact_Right_b1 _ _ = _
    unfold exact_Right_b1
    rw [dnlt (Nat.lt_irrefl _), if_neg (by decide)]; rfl)
  unfold exact_Right exact_Right_l1
  refine (show loopO _ (0 : Int) = _ from this).trans ?_
  congr 1
  rw [Bool.eq_iff_iff]
  constructor
  · intro h
    split at h
    · rename_i h1
      rw [List.all_eq_true]
      intro x hx
      obtain ⟨i, hi, e⟩ := mem_getD (d := ((0 : Int), (0 : Int))) hx
      rw [← e]; exact h1 i hi
    · cases h
  · intro h
    rw [if_pos]
    intro k hk
    exact List.all_eq_true.1 h _ (getD_mem hk)
end Go.Proofs.Ytaobbaohelpdgaa.Pl
