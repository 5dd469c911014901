import Derived.Test.YtnmkonlfnpcoiaaP27c
namespace Go.Proofs.Ytnmkonlfnpcoiaa.Pl
open Go.Proofs.Ytnmkonlfnpcoiaa
set_option maxRecDepth 8000
theorem chk_perm {l m : List Ent} (h : m.Perm l) : chk [] m = 0 ↔ chk [] l = 0 := by
  rw [chk_zero, chk_zero]
  constructor
  · rintro ⟨a, b, c⟩
    exact ⟨fun e he => a e (h.mem_iff.2 he), fun e he => b e (h.mem_iff.2 he), (h.map _).nodup_iff.1 c⟩
  · rintro ⟨a, b, c⟩
    exact ⟨fun e he => a e (h.mem_iff.1 he), fun e he => b e (h.mem_iff.1 he), (h.map _).nodup_iff.2 c⟩
theorem isort_like {l m : List Ent} (h : m.Perm l) (hn : (l.map (·.1)).Nodup) : isort ltE m = isort ltE l :=
  inc_one ((isort_perm m).trans h) (isort_perm l) hn (isort_inc wkE m) (isort_inc wkE l)
def turned (l : List Ent) (k : Nat) : List Ent := (l.take k).reverse ++ (l.drop k).reverse
theorem turned_perm (l : List Ent) (k : Nat) : (turned l k).Perm l := by
  unfold turned
  refine ((List.reverse_perm _).append (List.reverse_perm _)).trans ?_
  rw [List.take_append_drop]
theorem turned_at {l : List Ent} {k i : Nat} (hk : k < l.length) (hi : i < l.length) (d : Ent) : (turned l k).getD i d = l.getD ((l.length - 1 - i + k) % l.length) d := by
  unfold turned
  have h1 : (l.take k).reverse.length = k := by simp; omega
  by_cases hc : i < k
  · rw [getD_append_left (by omega)]
    have e : (l.length - 1 - i + k) % l.length = k - 1 - i := by
      rw [show l.length - 1 - i + k = (k - 1 - i) + l.length by omega, Nat.add_mod_right, Nat.mod_eq_of_lt (by omega)]
    rw [e]
    rw [List.getD_eq_getElem?_getD, List.getD_eq_getElem?_getD, List.getElem?_reverse (by simp; omega)]
    simp only [List.length_take]
    rw [show min k l.length - 1 - i = k - 1 - i by omega, List.getElem?_take_of_lt (by omega)]
  · rw [getD_append_right (by omega), h1]
    have e : (l.length - 1 - i + k) % l.length = l.length - 1 - i + k := Nat.mod_eq_of_lt (by omega)
    rw [e]
    rw [List.getD_eq_getElem?_getD, List.getD_eq_getElem?_getD, List.getElem?_reverse (by simp; omega)]
    simp only [List.length_drop, List.getElem?_drop]
    congr 2
    omega
theorem law27_PackTurns_true (x0 : List Int) (x1 : List ((Int × Int × Int) × (List Int))) (x2 : Int) (k0 : ∀ y5 ∈ x0, U8 y5) (k1 : ∀ y6 ∈ x1, (I64 y6.1.1 ∧ I64 y6.1.2.1 ∧ I64 y6.1.2.2) ∧ (∀ y7 ∈ y6.2, U8 y7)) (k2 : I64 x2) : law27_PackTurns x0 x1 x2 = some true := by
  unfold law27_PackTurns
  have hc := cutE_u8 (l := x1) (fun e he => (k1 e he).2)
  rw [show (30 : Int) = ((30 : Nat) : Int) from rfl, cut_mn, bind_some', Cut_eq, bind_some']
  generalize (x1.take 20).map cutE = l at hc
  obtain ⟨hu, hl, hb⟩ := hc
  by_cases hz : l.length = 0
  · rw [show decide ((l.length : Int) = 0) = true from by simp [hz], if_pos rfl, known27]; rfl
  · rw [show decide ((l.length : Int) = 0) = false from by simp only [decide_eq_false_iff_not]; omega]
    simp only [Bool.false_eq_true, if_false]
    obtain ⟨k, hk, e⟩ := rm_mod x2 l.length (by omega)
    rw [show IntKind.u64.wrap (l.length : Int) = (l.length : Int) from IntWalk.u64_in _ (by omega), e, bind_some']
    have hp := turned_perm l k
    have hlen : (turned l k).length = l.length := hp.length_eq
    have wk : IntKind.i64.wrap (k : Int) = (k : Int) := IntWalk.i64_in _ (by omega)
    have step : ∀ i, i < l.length → (fun (s : List Ent × Int) => law27_PackTurns_b1 (x0.take 30) l (k : Int) s.1 s.2) ((turned l k).take i, (i : Int)) = some (.inl ((turned l k).take (i + 1), ((i + 1 : Nat) : Int))) := by
      intro i hi
      show law27_PackTurns_b1 _ l (k : Int) _ (i : Int) = _
      unfold law27_PackTurns_b1
      have e1 : ad (sb (sb (l.length : Int) 1) (i : Int)) (k : Int) = ((l.length - 1 - i + k : Nat) : Int) := by
        rw [show sb (l.length : Int) 1 = ((l.length - 1 : Nat) : Int) from by rw [sbn (by omega) (by omega) (by omega) (by omega)]; omega, show sb ((l.length - 1 : Nat) : Int) (i : Int) = ((l.length - 1 - i : Nat) : Int) from by rw [sbn (by omega) (by omega) (by omega) (by omega)]; omega, adn (by omega) (by omega) (by omega) (by omega)]
        omega
      have e2 : rmK ((l.length - 1 - i + k : Nat) : Int) (l.length : Int) = some (((l.length - 1 - i + k) % l.length : Nat) : Int) := by
        unfold rmK
        rw [if_neg (by omega), Int.tmod_eq_emod_of_nonneg (by omega)]
        congr 1
      have hm : (l.length - 1 - i + k) % l.length < l.length := Nat.mod_lt _ (by omega)
      rw [dlt hi, if_pos rfl, wk, e1, bind_some', e2, bind_some', ix_getD ((0, 0, 0), []) hm, bind_some', ← turned_at hk hi, app_le (by simp; omega), bind_some', ad_one (by omega), snoc_take ((0, 0, 0), []) (by omega)]
    have last : (fun (s : List Ent × Int) => law27_PackTurns_b1 (x0.take 30) l (k : Int) s.1 s.2) ((turned l k).take l.length, (l.length : Int)) = some (.inr true) := by
      show law27_PackTurns_b1 _ l (k : Int) _ (l.length : Int) = _
      unfold law27_PackTurns_b1
      rw [← hlen, take_all, hlen, show decide ((l.length : Int) < (l.length : Int)) = false from by simp]
      simp only [Bool.false_eq_true, if_false]
      have w1 := write_eq (head := x0.take 30) (l := l) hu (by omega) (by simp; omega) (fun e he => by have := hb e he; omega)
      have w2 := write_eq (head := x0.take 30) (l := turned l k) (fun e he => hu e (hp.mem_iff.1 he)) (by omega) (by simp; omega) (fun e he => by have := hb e (hp.mem_iff.1 he); omega)
      rw [w1, bind_some', w2, bind_some', known27, bind_some']
      by_cases h0 : chk [] l = 0
      · rw [if_pos h0, if_pos ((chk_perm hp).2 h0), isort_like hp ((chk_zero l []).1 h0).2.2]
        simp only [decide_true, beq_self_eq_true, Bool.and_self, bind_some', gd_true]
        have hlb : (bytesA (x0.take 30) (arc (isort ltE l))).length < 1000000000 := by
          have ha := arc_len (isort ltE l)
          rw [isort_len] at ha
          have f1 := flat_len wB 100010 (arc (isort ltE l)).1 (fun b hb' => by
            obtain ⟨e, he, rfl⟩ := (arc_mem (isort ltE l)).1 b hb'
            have := hb e ((isort_perm l).mem_iff.1 he)
            have := wB_len e.2
            omega)
          have f2 := flat_len slB 40 (arc (isort ltE l)).2 (fun s _ => slB_len s)
          have f3 := wB_len (x0.take 30)
          have f4 := vb_len (arc (isort ltE l)).1.length
          have f5 := vb_len (arc (isort ltE l)).2.length
          have f6 : (x0.take 30).length ≤ 30 := by simp; omega
          simp only [bytesA, List.length_append, List.length_cons, List.length_nil]
          omega
        rw [Same_eq _ _ hlb]
        simp
      · have h1 : ¬ chk [] (turned l k) = 0 := fun h => h0 ((chk_perm hp).1 h)
        rw [if_neg h0, if_neg h1]
        rw [show decide (chk [] l = 0) = false from by simpa using h0, show decide (chk [] (turned l k) = 0) = false from by simpa using h1]
        simp only [beq_self_eq_true, Bool.and_self, bind_some', gd_true]
        rw [Same_eq _ _ (by simp)]
        simp
    exact loopO_nat (fun i => ((turned l k).take i, (i : Int))) l.length true step last
end Go.Proofs.Ytnmkonlfnpcoiaa.Pl
