import Derived.Test.YtnmkonlfnpcoiaaSof
import Derived.Shelf.GgSortFunc.Slice
import Derived.Lib.ReflectliteSwap
namespace Go.Proofs.Ytnmkonlfnpcoiaa
open Go.Shelf Go.RowKit Go.Lib Go.Sort
theorem Blk.sets {g : Nat} {t : TypeId} : ∀ (vs : List Value) (o : Nat) {w : World} {cs : Array Value}, Blk w g t cs → o + vs.length ≤ cs.size →
    ∃ cs' : Array Value, Blk (w.setCells g o vs) g t cs' ∧ cs'.toList = cs.toList.take o ++ vs ++ cs.toList.drop (o + vs.length)
  | [], o, w, cs, h, _ => ⟨cs, h, by simp⟩
  | v :: r, o, w, cs, h, hl => by
    simp only [List.length_cons] at hl
    obtain ⟨cs', h1, h2⟩ := Blk.sets r (o + 1) (h.set_ o v) (by simp; omega)
    refine ⟨cs', h1, h2.trans ?_⟩
    have e : (cs.setIfInBounds o v).toList = cs.toList.take o ++ v :: cs.toList.drop (o + 1) := by
      rw [Array.toList_setIfInBounds, List.set_eq_take_append_cons_drop, if_pos (by simp; omega)]
    have hlen : (cs.toList.take o).length = o := by simp; omega
    have d1 : ((cs.toList.take o ++ v :: cs.toList.drop (o + 1)).take (o + 1)) = cs.toList.take o ++ [v] := by
      rw [List.take_append, hlen, Nat.add_sub_cancel_left, List.take_of_length_le (by omega), List.take_succ_cons, List.take_zero]
    have d2 : ((cs.toList.take o ++ v :: cs.toList.drop (o + 1)).drop (o + 1 + r.length)) = cs.toList.drop (o + (v :: r).length) := by
      rw [List.drop_append, hlen, show o + 1 + r.length - o = r.length + 1 by omega, List.drop_succ_cons, List.drop_drop, List.drop_eq_nil_of_le (by simp; omega)]
      simp only [List.nil_append, List.length_cons]
      congr 1
      omega
    rw [e, d1, d2]
    simp
theorem Blk.setsO {g g' : Nat} {t : TypeId} (hne : g' ≠ g) : ∀ (vs : List Value) (o : Nat) {w : World}, (w.setCells g o vs).heap[g']? = w.heap[g']?
  | [], _, _ => rfl
  | v :: r, o, w => (Blk.setsO (t := t) hne r (o + 1)).trans (Below.heap_setCell w ⟨g, o, none⟩ v g' hne)
theorem size_sets {g : Nat} : ∀ (vs : List Value) (o : Nat) {w : World}, (w.setCells g o vs).heap.size = w.heap.size ∧ (w.setCells g o vs).os = w.os ∧ (w.setCells g o vs).tape = w.tape ∧ (w.setCells g o vs).output = w.output
  | [], _, _ => ⟨rfl, rfl, rfl, rfl⟩
  | v :: r, o, w => by
    have h := size_sets (g := g) r (o + 1) (w := w.setCell ⟨g, o, none⟩ v)
    exact ⟨h.1.trans (by simp [World.setCell]), h.2.1, h.2.2.1, h.2.2.2⟩
def slJ {α : Type} (R : Rep α) (w0 : World) (S0 : Nat → Prop) (g0 gb : Nat) (e : TypeId) (c n : Nat) : Sj (List α) where
  J l M w := w0.heap.size ≤ w.heap.size ∧ (∀ b, (b = gb ∨ S0 b) → M b ∧ b < w0.heap.size ∧ w.heap[b]? = w0.heap[b]?) ∧ M g0 ∧ ∃ cur, Blk w g0 e cur ∧ cur.size = c * R.s ∧ RepL R w0 S0 (cur.toList.take (l.length * R.s)) l ∧ l.length = n
  st := by
    rintro l M M' w w' ⟨h0, h1, h2, cur, h3, h4⟩ hsz hM
    refine ⟨Nat.le_trans h0 hsz, fun b hb => ?_, (hM g0 h3.lt h2).1, cur, (hM g0 h3.lt h2).2.trans h3, h4⟩
    obtain ⟨k1, k2, k3⟩ := h1 b hb
    have := hM b (Nat.lt_of_lt_of_le k2 h0) k1
    exact ⟨this.1, k2, this.2.trans k3⟩
section
variable {P : Program} {ρ : Ren} {α : Type}
theorem swapSl {R : Rep α} {w0 : World} {S0 : Nat → Prop} {g0 gb : Nat} {e : TypeId} {c n cc : Nat} {ie : TypeInfo} (hgb : gb ≠ g0) (hS0 : ¬ S0 g0) (hnc : n ≤ c)
    (hie : P.info? e = some ie) (hs : ie.size = R.s) (hagg : ∀ w, (isAgg e).run P w = .ok true w) (gS : Bool) (f : Nat) (hx : ∀ args W, (callFunc f args).run P W = ((Extern.ReflectliteSwapper.swap gS args).run P W).andThen fun v w' => .ok (.value v) w') :
    SwapS P f (.slice (some ⟨g0, 0, none⟩) n cc) (typeHandle P e) (slJ R w0 S0 g0 gb e c n) := by
  intro own lab lab2 w l l' i j hJ h0 hz
  obtain ⟨j0, j1, j2, cur, j3, j4, j5, j6⟩ := hJ
  obtain ⟨x, hxi, h⟩ := obind hz
  obtain ⟨y, hyj, h⟩ := obind h
  obtain ⟨m, hm, h⟩ := obind h
  obtain ⟨i0, il, ix_⟩ := ix_some hxi
  obtain ⟨jj0, jl, jx_⟩ := ix_some hyj
  obtain ⟨-, -, rfl⟩ := put_some hm
  obtain ⟨-, -, rfl⟩ := put_some h
  obtain ⟨i, rfl⟩ := Int.eq_ofNat_of_zero_le i0
  obtain ⟨j, rfl⟩ := Int.eq_ofNat_of_zero_le jj0
  simp only [Int.ofNat_eq_natCast, Int.toNat_natCast] at *
  have hc : (cur.toList.take (l.length * R.s)).length = l.length * R.s := j5.len
  have hmul : ∀ q, q < l.length → q * R.s + R.s ≤ l.length * R.s := fun q hq => by
    have := Nat.mul_le_mul_right R.s (show q + 1 ≤ l.length by omega)
    rw [Nat.add_mul, Nat.one_mul] at this; exact this
  have hlc : l.length * R.s ≤ cur.size := by rw [j4]; exact Nat.mul_le_mul_right _ (by omega)
  have okx := j5.get_ ix_
  have oky := j5.get_ jx_
  generalize hX : ((cur.toList.take (l.length * R.s)).drop (i * R.s)).take R.s = X at okx
  generalize hY : ((cur.toList.take (l.length * R.s)).drop (j * R.s)).take R.s = Y at oky
  have lX := R.len okx
  have lY := R.len oky
  have cellX : ∀ (q : Nat) (Z : List Value), q < l.length → ((cur.toList.take (l.length * R.s)).drop (q * R.s)).take R.s = Z → ∀ k v, Z[k]? = some v → w.cell? ⟨g0, 0 + q * ie.size + k, none⟩ = some v := by
    intro q Z hq hZ k v hv
    rw [hs, Nat.zero_add, j3.cell]
    rw [← hZ, List.getElem?_take] at hv
    split at hv
    · rw [List.getElem?_drop, List.getElem?_take] at hv
      split at hv
      · simpa using hv
      · cases hv
    · cases hv
  have hrun := run_swap_cells (P := P) gS e ie hie hagg g0 0 n cc i j (by omega) (by omega) X Y (by rw [hs]; exact lX) (by rw [hs]; exact lY) (R.one okx) (R.one oky) w
    (cellX i X il hX) (cellX j Y jl hY) (fun k _ => j3.frozen _) (fun k _ => j3.frozen _)
  have b1 : 0 + i * ie.size + Y.length ≤ cur.size := by rw [hs, lY]; have := hmul i il; omega
  obtain ⟨cur1, k1, k2⟩ := Blk.sets Y (0 + i * ie.size) j3 b1
  have s1 : cur1.size = cur.size := by
    have := congrArg List.length k2
    simp only [List.length_append, List.length_take, List.length_drop, Array.length_toList] at this
    omega
  have b2 : 0 + j * ie.size + X.length ≤ cur1.size := by rw [hs, lX, s1]; have := hmul j jl; omega
  obtain ⟨cur2, k3, k4⟩ := Blk.sets X (0 + j * ie.size) k1 b2
  have s2 : cur2.size = cur1.size := by
    have := congrArg List.length k4
    simp only [List.length_append, List.length_take, List.length_drop, Array.length_toList] at this
    omega
  have tk : ∀ (A : List Value) (Z : List Value) (o N : Nat), o + Z.length ≤ N → N ≤ A.length → (A.take o ++ Z ++ A.drop (o + Z.length)).take N = (A.take N).take o ++ Z ++ (A.take N).drop (o + Z.length) := by
    intro A Z o N h1 h2
    have e1 : (A.take o ++ Z).length = o + Z.length := by simp; omega
    rw [List.take_append, e1, List.take_of_length_le (by omega), List.take_take, Nat.min_eq_left (by omega), List.drop_take]
  have r1 : RepL R w0 S0 (cur1.toList.take (l.length * R.s)) (l.set i y) := by
    have := j5.set_ il oky
    rw [k2, hs, Nat.zero_add, tk _ _ _ _ (by rw [lY]; exact hmul i il) (by simpa using hlc), lY, show i * R.s + R.s = (i + 1) * R.s by rw [Nat.add_mul, Nat.one_mul]]
    exact this
  have r2 : RepL R w0 S0 (cur2.toList.take (l.length * R.s)) ((l.set i y).set j x) := by
    have := r1.set_ (k := j) (by simpa using jl) okx
    rw [k4, hs, Nat.zero_add, tk _ _ _ _ (by rw [lX]; exact hmul j jl) (by simp; omega), lX, show j * R.s + R.s = (j + 1) * R.s by rw [Nat.add_mul, Nat.one_mul]]
    exact this
  have z1 := size_sets (g := g0) Y (0 + i * ie.size) (w := w)
  have z2 := size_sets (g := g0) X (0 + j * ie.size) (w := w.setCells g0 (0 + i * ie.size) Y)
  have hoth : ∀ b, b ≠ g0 → ((w.setCells g0 (0 + i * ie.size) Y).setCells g0 (0 + j * ie.size) X).heap[b]? = w.heap[b]? := fun b hb => (Blk.setsO (t := e) hb X _).trans (Blk.setsO (t := e) hb Y _)
  have hg0 : own g0 = lab := j2
  refine ⟨_, mvOwn w [lab] lab2 own, by rw [hx, hrun]; rfl, Evo.mv [lab] lab2 own (z2.2.1.trans z1.2.1) (z2.2.2.1.trans z1.2.2.1) (z2.2.2.2.trans z1.2.2.2) (by rw [z2.1, z1.1]; exact Nat.le_refl _) (fun b _ hn => hoth b fun e => h0 (by rw [e, hg0] at hn; exact hn (by simp))), by rw [z2.1, z1.1]; exact j0, fun b hb => ?_, mvOwn_struck (by rw [hg0]; simp) (by rw [hg0]; exact h0), cur2, k3, by rw [s2, s1]; exact j4, by simpa using r2, by simpa using j6⟩
  obtain ⟨q1, q2, q3⟩ := j1 b hb
  have q1 : own b = lab := q1
  refine ⟨mvOwn_struck (by rw [q1]; simp) (by rw [q1]; exact h0), q2, (hoth b fun e => ?_).trans q3⟩
  rcases hb with hb | hb
  · exact hgb (hb.symm.trans e)
  · exact hS0 (e ▸ hb)
open Classical in
theorem sortSl (L0 : LaysGg.n6 P ρ) {t e : TypeId} {i ie : TypeInfo} (hi : P.info? t = some i) (hd : i.desc = .slice e) (hpk : P.packed t = false) (hie : P.info? e = some ie) (ke : Nat) (hke : ∀ w, (Extern.Rtype.kind e).run P w = .ok ke w) (hagg : ∀ w, (isAgg e).run P w = .ok true w)
    {R : Rep α} (hs : ie.size = R.s) {g f : Nat} {gS : Bool} (hx : ∀ args W, (callFunc f args).run P W = ((Extern.ReflectliteSwapper.swap gS args).run P W).andThen fun v w' => .ok (.value v) w')
    {lf : List α → Int → Int → Option Bool} {pd : List α → Int → Int → Int → Option (List α)}
    (hless : ∀ (w : World) (gb : Nat) (tb : TypeId) (A : Option Addr) (c : Nat) (l : List α) (x y : Int) (r : Bool), BlkO (fun _ => 0) 0 w gb tb #[.slice A l.length c] → RdO (fun _ => 0) [0] w R A c l → lf l x y = some r →
      Calls P g #[.int .i64 x, .int .i64 y, .pointer (some ⟨gb, 0, none⟩)] w fun e w' => ∃ own' : Own, e = .returned (.bool r) ∧ Evo [] (fun _ => 0) own' w w')
    (hpdq : ∀ (own : Own) (w : World) (ca sv th : Value) (l : List α) (J : Sj (List α)) (a b lim : Int) (r : List α), (∀ b, own b ≤ 1) → LessS P g ca lf J → SwapS P f sv th J → SoO J own 1 w l → pd l a b lim = some r →
      Calls P (ρ.f 14) #[.agg #[.func (.func g) #[] #[ca], .func (.func f) #[] #[sv, th]], .int .i64 a, .int .i64 b, .int .i64 lim] w fun e w' => ∃ own' : Own, e = .returned (.tuple #[]) ∧ Evo [1] own own' w w' ∧ SoO J own' 1 w' r)
    {own : Own} {lab lab2 labB : Nat} {L : List Nat} {w : World} {gb : Nat} {tb : TypeId} {A : Option Addr} {c : Nat} {l l' : List α}
    (hrow : RwO own lab L w e R A c l) (hbox : BlkO own labB w gb tb #[.slice A l.length c]) (h0 : lab ≠ 0) (hL : lab ∉ L) (hB : labB ≠ lab) (h2 : 2 ≤ l.length) (hn : l.length < 4611686018427387904) (hk : ¬ swapperK l.length ie ke ≤ 2)
    (hkit : ∀ (p : Option Addr) (K : World → Prop), (Calls P (ρ.f 14) #[.agg #[.func (.func g) #[] #[.pointer (some ⟨gb, 0, none⟩)], .func (.func f) #[] (sliceBound P e ie ke p l.length c)], .int .i64 0, .int .i64 l.length, .int .i64 (Lib.bitLen l.length)] (sliceWorld P ρ t p l.length c w) fun e w' => e = .returned (.tuple #[]) ∧ K w') →
      Calls P (ρ.f 6) #[.iface t (.slice p l.length c), .func (.func g) #[] #[.pointer (some ⟨gb, 0, none⟩)]] w fun e w' => e = .returned (.tuple #[]) ∧ K w') (hz : pd l 0 l.length (Lib.bitLen l.length) = some l') :
    Calls P (ρ.f 6) #[.iface t (.slice A l.length c), .func (.func g) #[] #[.pointer (some ⟨gb, 0, none⟩)]] w fun e' w' => e' = .returned (.tuple #[]) ∧ ∃ own' : Own, Evo [lab] own own' w w' ∧ RwO own' lab2 L w' e R A c l' := by
  rcases hrow with ⟨rfl, _⟩ | ⟨g0, cur, rfl, hog, hb0, hlc, hcm, hcs, hR⟩
  · simp at h2
  have hne : gb ≠ g0 := fun e => hB (by rw [← hbox.1, e]; exact hog)
  generalize hS0 : (fun b => At own L w b ∧ b ≠ g0) = S0 at hR
  have hSd : ∀ b, S0 b → own b ∈ L ∧ b < w.heap.size ∧ b ≠ g0 := fun b hb => by rw [← hS0] at hb; exact ⟨hb.1.1, hb.1.2, hb.2⟩
  let own0 : Own := fun b => if b = g0 ∨ b = gb ∨ S0 b then 1 else 0
  have o1 : ∀ b, (b = g0 ∨ b = gb ∨ S0 b) → own0 b = 1 := fun b hb => if_pos hb
  have hsz : w.heap.size ≤ (sliceWorld P ρ t (some ⟨g0, 0, none⟩) l.length c w).heap.size := by unfold sliceWorld; rw [alloc_eq_grow, alloc_eq_grow, grow_grow, size_grow]; omega
  have hsame : ∀ b, b < w.heap.size → (sliceWorld P ρ t (some ⟨g0, 0, none⟩) l.length c w).heap[b]? = w.heap[b]? := fun b hb => by
    unfold sliceWorld; rw [alloc_eq_grow, alloc_eq_grow, grow_grow]
    show (w.heap ++ _)[b]? = _
    rw [Array.getElem?_append_left hb]
  have hos : (sliceWorld P ρ t (some ⟨g0, 0, none⟩) l.length c w).os = w.os ∧ (sliceWorld P ρ t (some ⟨g0, 0, none⟩) l.length c w).tape = w.tape ∧ (sliceWorld P ρ t (some ⟨g0, 0, none⟩) l.length c w).output = w.output := ⟨rfl, rfl, rfl⟩
  have hJ : SoO (slJ R w S0 g0 gb e c l.length) own0 1 (sliceWorld P ρ t (some ⟨g0, 0, none⟩) l.length c w) l := by
    refine ⟨hsz, fun b hb => ?_, o1 g0 (.inl rfl), cur, (hsame g0 hb0.lt).trans hb0, hcs, hR, rfl⟩
    have hlt : b < w.heap.size := by
      rcases hb with rfl | hb
      · exact hbox.2.lt
      · exact (hSd b hb).2.1
    exact ⟨o1 b (.inr hb), hlt, hsame b hlt⟩
  have hS := swapSl (P := P) (R := R) (w0 := w) (S0 := S0) (gb := gb) (c := c) (n := l.length) (cc := c) hne (fun h => (hSd g0 h).2.2 rfl) hlc hie hs hagg gS f hx
  have hLs : LessS P g (.pointer (some ⟨gb, 0, none⟩)) lf (slJ R w S0 g0 gb e c l.length) := by
    rintro own lab w' m x y r ⟨j0, j1, j2, cur', j3, j4, j5, j6⟩ hr
    refine hless w' gb tb (some ⟨g0, 0, none⟩) c m x y r ⟨rfl, ?_⟩ ⟨by omega, _, j5.loc (S' := At (fun _ => 0) [0] w') fun b hb => ⟨⟨by simp, Nat.lt_of_lt_of_le (j1 b (.inr hb)).2.1 j0⟩, (j1 b (.inr hb)).2.2⟩, fun _ => ⟨g0, 0, rfl, ⟨by simp, j3.lt⟩, fun k u hu => ?_⟩⟩ hr
    · rw [j6]; exact (j1 gb (.inl rfl)).2.2.trans hbox.2
    · rw [Nat.zero_add, j3.cell]
      rw [List.getElem?_take] at hu
      split at hu
      · simpa using hu
      · cases hu
  refine (hkit (some ⟨g0, 0, none⟩)
    (fun w' => ∃ own' : Own, Evo [1] own0 own' (sliceWorld P ρ t (some ⟨g0, 0, none⟩) l.length c w) w' ∧ SoO (slJ R w S0 g0 gb e c l.length) own' 1 w' l') ?_).mono ?_
  · have hBd : sliceBound P e ie ke (some ⟨g0, 0, none⟩) l.length c = #[.slice (some ⟨g0, 0, none⟩) l.length c, typeHandle P e] := by unfold sliceBound; rw [if_neg hk]
    rw [hBd]
    refine (hpdq own0 _ _ _ _ l _ 0 l.length (Lib.bitLen l.length) l' (fun b => ?_) hLs hS hJ hz).mono ?_
    · show (if _ then 1 else 0) ≤ 1
      split <;> omega
    · rintro e' w' ⟨own', rfl, h⟩
      exact ⟨rfl, own', h⟩
  · rintro e' w' ⟨rfl, own', hE, j0, j1, j2, cur', j3, j4, j5, j6⟩
    have keepB : ∀ b, b < w.heap.size → own b ≠ lab → w'.heap[b]? = w.heap[b]? := fun b hb hnl => by
      by_cases hm : b = gb ∨ S0 b
      · exact (j1 b hm).2.2
      · have hz : own0 b = 0 := if_neg fun h => by
          rcases h with h | h
          · exact hnl (by rw [h]; exact hog)
          · exact hm h
        exact (hE.keep b (Nat.lt_of_lt_of_le hb hsz) fun _ => hz).2.trans (hsame b hb)
    refine ⟨rfl, mvOwn w [lab] lab2 own, Evo.mv [lab] lab2 own (hE.os.trans hos.1) (hE.tape.trans hos.2.1) (hE.output.trans hos.2.2) j0 (fun b hb hn => keepB b hb fun e => h0 (by rw [e] at hn; exact hn (by simp))), .inr ⟨g0, cur', rfl, mvOwn_struck (by rw [hog]; simp) (by rw [hog]; exact h0), j3, by omega, hcm, j4, j5.loc fun b hb => ⟨⟨⟨?_, ?_⟩, (hSd b hb).2.2⟩, (j1 b (.inr hb)).2.2⟩⟩⟩
    · show mvOwn w [lab] lab2 own b ∈ L
      rw [mvOwn_same (hSd b hb).2.1 (by simp; intro e; exact hL (e ▸ (hSd b hb).1))]
      exact (hSd b hb).1
    · exact Nat.lt_of_lt_of_le (hSd b hb).2.1 j0
end
theorem sortT {own : Own} {lab lab2 : Nat} {L : List Nat} {w w' : World} {α : Type} {R : Rep α} {e : TypeId} {A : Option Addr} {c : Nat} {l : List α} (hrow : RwO own lab L w e R A c l) (h0 : lab ≠ 0) (hL : lab ∉ L) (h : ∃ os, w' = grow w os) :
    ∃ own' : Own, Evo [lab] own own' w w' ∧ RwO own' lab2 L w' e R A c l := by
  obtain ⟨os, rfl⟩ := h
  have hE : ∀ (T : List Nat) (o : Own), Evo T o o w (grow w os) := fun T o => ⟨rfl, rfl, rfl, by rw [size_grow]; omega, fun b hb _ => ⟨rfl, by show (w.heap ++ os)[b]? = _; rw [Array.getElem?_append_left hb]⟩⟩
  have hh : hits [lab] L = false := by
    cases hc : hits [lab] L with
    | false => rfl
    | true =>
      obtain ⟨t, ht, hl⟩ := List.any_eq_true.1 hc
      obtain ⟨x, hx, hb⟩ := List.any_eq_true.1 hl
      have e1 : t = lab := by simpa using ht
      have e2 := Nat.eq_of_beq_eq_true hb
      first
        | exact (hL (by rw [← e1, e2]; exact hx)).elim
        | exact (hL (by rw [← e1, ← e2]; exact hx)).elim
  have h1 := hrow.mv (T := [lab]) (lab2 := lab2) (by simp) h0 (.inr hh)
  exact ⟨_, (Evo.mv [lab] lab2 own rfl rfl rfl (Nat.le_refl _) fun _ _ _ => rfl).trans (hE _ _), RwO.evo (T := []) rfl (hE [] _) h1⟩
section
variable {P : Program} {T : List Nat} {own : Own} {a : Act} {w : World} {d lab lab2 f : Nat} {args : Array Operand} {vs : Array Value} {ts : Array TypeId} {e ty : TypeId} {pos : String} {after : Array Edge} {guard : Option (Nat × Bool)} {α : Type} {R : Rep α} {A : Option Addr} {c : Nat} {l l' : List α} {L : List Nat}
theorem or_sortS (hf : CF P f) (he : args.map a.eval = vs) (hT : lab ∈ T) (hc : Calls P f vs w fun e' w' => e' = .returned (.tuple #[]) ∧ ∃ own' : Own, Evo [lab] own own' w w' ∧ RwO own' lab2 L w' e R A c l') :
    OpR P ⟨some d, .call ⟨.value (.func f), args, ts⟩, ty, pos, after, guard⟩ a w (Post T own a w (Fct.rowAt lab2 L e R A c l') (some d)) :=
  or_call hf he hc fun e' w' ⟨he, own', hE, hr⟩ => ⟨_, he, own', hE.more (by simpa using hT), fun _ _ => hr⟩
end
end Go.Proofs.Ytnmkonlfnpcoiaa
