import Derived.Test.YtnmkonlfnpcoiaaP27v
import Derived.Test.YtnmkonlfnpcoiaaP27n
import Derived.Test.YtnmkonlfnpcoiaaSort
namespace Go.Proofs.Ytnmkonlfnpcoiaa.Pl
open Go.Proofs.Ytnmkonlfnpcoiaa
set_option maxRecDepth 4000
abbrev T3 := Int × Int × Int
abbrev Ent := (Int × Int × Int) × List Int
def ltT (a b : T3) : Bool := decide (a.1 < b.1) || (decide (a.1 = b.1) && (decide (a.2.1 < b.2.1) || (decide (a.2.1 = b.2.1) && decide (a.2.2 < b.2.2))))
theorem ltT_iff (a b : T3) : ltT a b = true ↔ a.1 < b.1 ∨ a.1 = b.1 ∧ (a.2.1 < b.2.1 ∨ a.2.1 = b.2.1 ∧ a.2.2 < b.2.2) := by
  simp only [ltT, Bool.or_eq_true, Bool.and_eq_true, decide_eq_true_eq]
theorem ltT_not (a b : T3) : ltT a b = false ↔ ¬ (a.1 < b.1 ∨ a.1 = b.1 ∧ (a.2.1 < b.2.1 ∨ a.2.1 = b.2.1 ∧ a.2.2 < b.2.2)) := by
  rw [← ltT_iff, Bool.not_eq_true]
theorem ltT_tot {a b : T3} (h1 : ltT a b = false) (h2 : ltT b a = false) : a = b := by
  rw [ltT_not] at h1 h2
  obtain ⟨x, y, z⟩ := a
  obtain ⟨u, v, w⟩ := b
  simp only at h1 h2
  have e1 : x = u := by omega
  have e2 : y = v := by omega
  have e3 : z = w := by omega
  rw [e1, e2, e3]
theorem wless (a b : T3) : window_Less a b = some (ltT a b) := by
  unfold window_Less exact_Less ltT
  by_cases h : a.1 = b.1
  · rw [show (!decide (a.1 = b.1)) = false from by simp [h], show decide (a.1 < b.1) = false from by simp [h], show decide (a.1 = b.1) = true from by simpa using h]
    simp only [Bool.false_eq_true, if_false, bind_some', Bool.false_or, Bool.true_and]
  · rw [show (!decide (a.1 = b.1)) = true from by simp [h], show decide (a.1 = b.1) = false from by simpa using h]
    simp only [if_true, Bool.false_and, Bool.or_false]
theorem wkT : Wk ltT := ⟨fun x => (ltT_not x x).2 (by omega), fun {x y z} h1 h2 => by rw [ltT_iff] at *; omega, fun {x y z} h1 h2 => by rw [ltT_not] at *; omega⟩
def ltE (x y : Ent) : Bool := ltT x.1 y.1
theorem wkE : Wk ltE := ⟨fun x => wkT.ir x.1, fun h1 h2 => wkT.tr h1 h2, fun h1 h2 => wkT.nt h1 h2⟩
theorem swoE : Go.Sort.SWO ltE := ⟨wkE.ir, fun _ _ _ h1 h2 => wkE.tr h1 h2, fun _ _ _ h1 h2 => wkE.nt h1 h2⟩
theorem lfE : LfA ltE (fun (l : List Ent) i j => pack_packed_1 i j l) := by
  intro d i j h0 h1 h2 h3
  show pack_packed_1 i j d.toList = _
  unfold pack_packed_1
  rw [ix_at h0 (by simp only [Array.length_toList]; omega), bind_some', ix_at h1 (by simp only [Array.length_toList]; omega), bind_some', wless, bind_some']
  simp [ltE, h2, h3]
theorem inc_one {l a b : List Ent} (ha : a.Perm l) (hb : b.Perm l) (hn : (l.map (·.1)).Nodup) (ia : Inc ltE a) (ib : Inc ltE b) : a = b := by
  refine List.Perm.eq_of_pairwise (le := fun a b => ltE b a = false) (fun x y hx hy h1 h2 => ?_) ia ib (ha.trans hb.symm)
  have hx' := ha.mem_iff.1 hx
  have hy' := hb.mem_iff.1 hy
  have e : x.1 = y.1 := ltT_tot h2 h1
  obtain ⟨i, hi, rfl⟩ := List.getElem_of_mem hx'
  obtain ⟨j, hj, rfl⟩ := List.getElem_of_mem hy'
  have : i = j := (List.getElem_inj (h₀ := by simpa using hi) (h₁ := by simpa using hj) hn).1 (by simpa using e)
  subst this; rfl
theorem sortAll {l : List Ent} (hl : l.length < 128) (hn : (l.map (·.1)).Nodup) : sortAll23_48 l = some (isort ltE l) := by
  obtain ⟨d', e, hp, hs⟩ := srt_all (lt := ltE) (lf := fun (l : List Ent) i j => pack_packed_1 i j l) swoE lfE (d := l.toArray) (by simpa using hl)
  have e : sortAll23_48 l = some d'.toList := e
  rw [e]
  congr 1
  have hz : d'.size = l.length := by simpa using hp.1
  have hp2 : d'.toList.Perm l := by
    have := hp.2.2
    have h1 : (d'.extract 0 l.toArray.size).toList = d'.toList := by simp [← hz]
    have h2 : (l.toArray.extract 0 l.toArray.size).toList = l := by simp
    rwa [h1, h2] at this
  refine inc_one hp2 (isort_perm l) hn ?_ (isort_inc wkE l)
  unfold Inc
  rw [List.pairwise_iff_getElem]
  intro i j hi hj hij
  have := hs i j (Nat.zero_le _) hij (by simpa using hz ▸ hj)
  simp only [Array.length_toList] at hi hj
  simpa [hi, hj] using this
def cnt (z : Int) : Int := if 0 ≤ z ∧ z ≤ 4 then 2 ^ z.toNat else 0
theorem cnt_eq (z : Int) : window_count z = some (cnt z) := by
  unfold window_count snap_Side snap_level cnt
  by_cases h : 0 ≤ z ∧ z ≤ 4
  · rw [if_pos h, show decide (0 ≤ z) = true from by simpa using h.1, show decide (z ≤ 4) = true from by simpa using h.2]
    have : z = 0 ∨ z = 1 ∨ z = 2 ∨ z = 3 ∨ z = 4 := by omega
    rcases this with rfl | rfl | rfl | rfl | rfl <;> rfl
  · have : (decide (0 ≤ z) && decide (z ≤ 4)) = false := by simp; omega
    rw [if_neg h, this]; rfl
def rgt (t : T3) : Bool := decide (0 ≤ t.2.1) && decide (t.2.1 < cnt t.1) && decide (0 ≤ t.2.2) && decide (t.2.2 < cnt t.1)
theorem wright (t : T3) : window_Right t = some (rgt t) := by
  unfold window_Right rgt
  rw [cnt_eq, bind_some', bind_some', bind_some']
theorem cnt_le (z : Int) : cnt z ≤ 16 := by
  unfold cnt
  split
  · rename_i h
    have : z = 0 ∨ z = 1 ∨ z = 2 ∨ z = 3 ∨ z = 4 := by omega
    rcases this with rfl | rfl | rfl | rfl | rfl <;> decide
  · decide
theorem rgt_in {t : T3} (h : rgt t = true) : 0 ≤ t.1 ∧ t.1 ≤ 4 ∧ 0 ≤ t.2.1 ∧ t.2.1 < 16 ∧ 0 ≤ t.2.2 ∧ t.2.2 < 16 := by
  simp only [rgt, Bool.and_eq_true, decide_eq_true_eq] at h
  have h1 := cnt_le t.1
  have h2 : 0 ≤ t.1 ∧ t.1 ≤ 4 := Classical.byContradiction fun hc => by
    have : cnt t.1 = 0 := if_neg hc
    omega
  omega
def chk : List T3 → List Ent → Int
  | _, [] => 0
  | seen, e :: r => if rgt e.1 then (if e.1 ∈ seen then 8 else chk (seen ++ [e.1]) r) else 5
theorem chk_zero : ∀ (l : List Ent) (seen : List T3), chk seen l = 0 ↔ (∀ e ∈ l, rgt e.1 = true) ∧ (∀ e ∈ l, e.1 ∉ seen) ∧ (l.map (·.1)).Nodup
  | [], seen => by simp [chk]
  | e :: r, seen => by
    rw [chk]
    by_cases h1 : rgt e.1 = true
    · rw [if_pos h1]
      by_cases h2 : e.1 ∈ seen
      · rw [if_pos h2]
        simp [h2]
      · rw [if_neg h2, chk_zero r]
        simp only [List.mem_cons, forall_eq_or_imp, h1, true_and, h2, not_false_eq_true, List.map_cons, List.nodup_cons, List.mem_append, not_or, List.mem_singleton, List.mem_map, not_exists, not_and, List.not_mem_nil, or_false]
        constructor
        · rintro ⟨a, b, c⟩
          exact ⟨a, fun x hx => (b x hx).1, fun x hx h => (b x hx).2 h, c⟩
        · rintro ⟨a, b, c, d⟩
          exact ⟨a, fun x hx => ⟨b x hx, fun h => c x hx h⟩, d⟩
    · rw [if_neg h1]
      simp [h1]
theorem lk_up {K V : Type} [DecidableEq K] (k x : K) (v : V) : ∀ D : List (K × V), lkM (upM D k v) x = if x = k then some v else lkM D x
  | [] => rfl
  | p :: r => by
    unfold upM
    by_cases h : k = p.1
    · rw [if_pos h]
      unfold lkM
      by_cases hx : x = k
      · rw [if_pos hx, if_pos hx]
      · rw [if_neg hx, if_neg hx, if_neg (by rw [← h]; exact hx)]
    · rw [if_neg h]
      unfold lkM
      by_cases hx : x = p.1
      · rw [if_pos hx, if_pos hx, if_neg (by rw [hx]; exact fun hh => h hh.symm)]
      · rw [if_neg hx, if_neg hx, lk_up k x v r]
theorem bsS_inj {a b : List Int} (ha : ∀ x ∈ a, U8 x) (hb : ∀ x ∈ b, U8 x) (h : bsS a = bsS b) : a = b := by
  have h1 : (a.map fun n => UInt8.ofNat n.toNat) = b.map fun n => UInt8.ofNat n.toNat := by
    have := congrArg (fun s : ByteArray => s.data.toList) h
    exact this
  have key : ∀ l : List Int, (∀ x ∈ l, U8 x) → (l.map fun n => UInt8.ofNat n.toNat).map (fun u => (u.toNat : Int)) = l := by
    intro l hl
    rw [List.map_map]
    conv => rhs; rw [← List.map_id l]
    refine List.map_congr_left fun x hx => ?_
    have := hl x hx
    unfold U8 at this
    simp only [Function.comp, id, UInt8.toNat_ofNat']
    omega
  rw [← key a ha, ← key b hb, h1]
def stB (s : List (List Int) × List (T3 × Int)) (e : Ent) : List (List Int) × List (T3 × Int) :=
  if e.2 ∈ s.1 then (s.1, s.2 ++ [(e.1, (s.1.idxOf e.2 : Int))]) else (s.1 ++ [e.2], s.2 ++ [(e.1, (s.1.length : Int))])
def arc (S : List Ent) : List (List Int) × List (T3 × Int) := S.foldl stB ([], [])
def NumsOk (D : List (ByteArray × Int)) (bl : List (List Int)) : Prop := ∀ b : List Int, (∀ x ∈ b, U8 x) → lkM D (bsS b) = if b ∈ bl then some (bl.idxOf b : Int) else none
theorem NumsOk.up {D : List (ByteArray × Int)} {bl : List (List Int)} (h : NumsOk D bl) {e : List Int} (he : ∀ x ∈ e, U8 x) (hn : e ∉ bl) : NumsOk (upM D (bsS e) (bl.length : Int)) (bl ++ [e]) := by
  intro b hb
  rw [lk_up]
  by_cases hc : b = e
  · subst hc
    rw [if_pos rfl, if_pos (by simp)]
    rw [List.idxOf_append, if_neg hn]
    simp
  · rw [if_neg (fun hh => hc (bsS_inj hb he hh)), h b hb]
    by_cases hm : b ∈ bl
    · rw [if_pos hm, if_pos (by simp [hm]), List.idxOf_append, if_pos hm]
    · rw [if_neg hm, if_neg (by simp [hm, hc])]
theorem arc_len (S : List Ent) : (arc S).1.length ≤ S.length ∧ (arc S).2.length = S.length := by
  have : ∀ (S : List Ent) (s : List (List Int) × List (T3 × Int)), (S.foldl stB s).1.length ≤ s.1.length + S.length ∧ (S.foldl stB s).2.length = s.2.length + S.length := by
    intro S
    induction S with
    | nil => intro s; simp
    | cons e r ih =>
      intro s
      rw [List.foldl_cons]
      have h := ih (stB s e)
      have h1 : (stB s e).1.length ≤ s.1.length + 1 ∧ (stB s e).2.length = s.2.length + 1 := by
        unfold stB
        split <;> simp
      simp only [List.length_cons]
      omega
  simpa [arc] using this S ([], [])
theorem packed_l2 (head : List Int) (S : List Ent) (hu : ∀ e ∈ S, ∀ x ∈ e.2, U8 x) (hS : S.length ≤ 1000) : ∀ (rest pre : List Ent) (D : List (ByteArray × Int)), S = pre ++ rest → NumsOk D (arc pre).1 →
    pack_packed_l2 head S ((arc pre).1, (arc pre).2, D, (pre.length : Int)) = some (.inl ((head, (arc S).1, (arc S).2), 0)) := by
  intro rest
  induction rest with
  | nil =>
    intro pre D h hD
    rw [List.append_nil] at h
    subst h
    refine loopO_inr ?_
    show pack_packed_b2 head S _ _ _ _ = _
    unfold pack_packed_b2
    rw [show decide ((S.length : Int) < (S.length : Int)) = false from by simp]
    rfl
  | cons e r ih =>
    intro pre D h hD
    have hk : pre.length < S.length := by rw [h]; simp
    have he : ix S (pre.length : Int) = some e := by
      rw [ix_getD e hk, h]
      congr 1
      rw [getD_append_right (Nat.le_refl _), Nat.sub_self]; rfl
    have hue : ∀ x ∈ e.2, U8 x := hu e (by rw [h]; simp)
    have hal := arc_len pre
    have hst : arc (pre ++ [e]) = stB (arc pre) e := by unfold arc; rw [List.foldl_append]; rfl
    have hpl : pre.length + (r.length + 1) = S.length := by rw [h]; simp
    have next : ∀ D2 : List (ByteArray × Int), NumsOk D2 (arc (pre ++ [e])).1 → pack_packed_b2 head S (arc pre).1 (arc pre).2 D (pre.length : Int) = some (.inl ((arc (pre ++ [e])).1, (arc (pre ++ [e])).2, D2, ((pre ++ [e]).length : Int))) →
        pack_packed_l2 head S ((arc pre).1, (arc pre).2, D, (pre.length : Int)) = some (.inl ((head, (arc S).1, (arc S).2), 0)) := fun D2 h2 hb =>
      (loopO_inl hb).trans (ih (pre ++ [e]) D2 (by rw [h]; simp) h2)
    have hlk := hD e.2 hue
    have e1 : ad (pre.length : Int) 1 = ((pre ++ [e]).length : Int) := by rw [ad_one (by omega)]; simp
    by_cases hm : e.2 ∈ (arc pre).1
    · rw [if_pos hm] at hlk
      have hs : stB (arc pre) e = ((arc pre).1, (arc pre).2 ++ [(e.1, ((arc pre).1.idxOf e.2 : Int))]) := if_pos hm
      refine next D (by rw [hst, hs]; exact hD) ?_
      rw [hst, hs]
      unfold pack_packed_b2 pack_packed_k3
      rw [dlt hk, if_pos rfl, he, bind_some', hlk]
      simp only [Option.isSome_some, Bool.not_true, Bool.false_eq_true, if_false, Option.getD_some]
      rw [app_le (by simp; omega), bind_some', e1]
    · rw [if_neg hm] at hlk
      have hs : stB (arc pre) e = ((arc pre).1 ++ [e.2], (arc pre).2 ++ [(e.1, ((arc pre).1.length : Int))]) := if_neg hm
      refine next (upM D (bsS e.2) ((arc pre).1.length : Int)) (by rw [hst, hs]; exact hD.up hue hm) ?_
      rw [hst, hs]
      unfold pack_packed_b2 pack_packed_k3
      rw [dlt hk, if_pos rfl, he, bind_some', hlk]
      simp only [Option.isSome_none, Bool.not_false, if_true, bind_some']
      rw [app_le (by simp; omega), bind_some', app_le (by simp; omega), bind_some', e1]
def MetOk (D : List (T3 × Bool)) (seen : List T3) : Prop := ∀ t, (lkM D t).getD false = decide (t ∈ seen)
theorem packed_l1 (head : List Int) (l : List Ent) (hu : ∀ e ∈ l, ∀ x ∈ e.2, U8 x) (hl : l.length < 128) (hn : chk [] l = 0 → (l.map (·.1)).Nodup) : ∀ (rest pre : List Ent) (D : List (T3 × Bool)), l = pre ++ rest → chk [] l = chk (pre.map (·.1)) rest → MetOk D (pre.map (·.1)) →
    pack_packed_l1 head l (D, (pre.length : Int)) = some (if chk [] l = 0 then .inl ((head, (arc (isort ltE l)).1, (arc (isort ltE l)).2), 0) else .inr ((), chk [] l)) := by
  intro rest
  induction rest with
  | nil =>
    intro pre D h hc hD
    rw [List.append_nil] at h
    subst h
    have h0 : chk [] l = 0 := by rw [hc]; rfl
    rw [if_pos h0]
    refine loopO_inr ?_
    show pack_packed_b1 head l D (l.length : Int) = _
    unfold pack_packed_b1 slices_Clone_pack_Entry_pack_Entry
    rw [show decide ((l.length : Int) < (l.length : Int)) = false from by simp]
    simp only [Bool.false_eq_true, if_false]
    rw [app_le (by simp; omega), bind_some', bind_some', List.nil_append, sortAll hl (hn h0), bind_some']
    have := packed_l2 head (isort ltE l) (fun e he => hu e ((isort_perm l).mem_iff.1 he)) (by rw [isort_len]; omega) (isort ltE l) [] [] rfl (fun b _ => by simp [arc, lkM])
    rw [show (arc []).1 = [] from rfl, show (arc []).2 = [] from rfl, show ((([] : List Ent).length : Nat) : Int) = 0 from rfl] at this
    rw [this]
    rfl
  | cons e r ih =>
    intro pre D h hc hD
    have hk : pre.length < l.length := by rw [h]; simp
    have he : ix l (pre.length : Int) = some e := by
      rw [ix_getD e hk, h]
      congr 1
      rw [getD_append_right (Nat.le_refl _), Nat.sub_self]; rfl
    rw [chk] at hc
    have hD' := hD e.1
    by_cases h1 : rgt e.1 = true
    · rw [if_pos h1] at hc
      by_cases h2 : e.1 ∈ pre.map (·.1)
      · rw [if_pos h2] at hc
        rw [hc, if_neg (by decide)]
        refine loopO_inr ?_
        show pack_packed_b1 head l D (pre.length : Int) = _
        unfold pack_packed_b1
        rw [dlt hk, if_pos rfl, he, bind_some', wright, bind_some', h1, hD', decide_eq_true h2]
        rfl
      · rw [if_neg h2] at hc
        refine (loopO_inl (s' := (upM D e.1 true, ((pre ++ [e]).length : Int))) ?_).trans (ih (pre ++ [e]) _ (by rw [h]; simp) (by rw [hc]; simp) (fun t => ?_))
        · show pack_packed_b1 head l D (pre.length : Int) = _
          unfold pack_packed_b1
          rw [dlt hk, if_pos rfl, he, bind_some', wright, bind_some', h1, hD', decide_eq_false h2]
          simp only [Bool.not_true, Bool.false_eq_true, if_false, bind_some']
          rw [ad_one (by omega)]; simp
        · rw [lk_up]
          by_cases ht : t = e.1
          · rw [if_pos ht]; simp [ht]
          · rw [if_neg ht, hD t]; simp [ht]
    · rw [if_neg h1] at hc
      rw [hc, if_neg (by decide)]
      refine loopO_inr ?_
      show pack_packed_b1 head l D (pre.length : Int) = _
      unfold pack_packed_b1
      rw [dlt hk, if_pos rfl, he, bind_some', wright, bind_some', show rgt e.1 = false from by simpa using h1]
      rfl
theorem packed_eq {head : List Int} {l : List Ent} (hu : ∀ e ∈ l, ∀ x ∈ e.2, U8 x) (hl : l.length < 128) :
    pack_packed head l = some (if chk [] l = 0 then .inl ((head, (arc (isort ltE l)).1, (arc (isort ltE l)).2), 0) else .inr ((), chk [] l)) := by
  unfold pack_packed
  have := packed_l1 head l hu hl (fun h => ((chk_zero l []).1 h).2.2) l [] [] rfl rfl (fun t => by simp [lkM])
  exact this
end Go.Proofs.Ytnmkonlfnpcoiaa.Pl
