import Derived.Test.YtpbhdblkjabdlaaMore
import Derived.Test.YtpbhdblkjabdlaaPst
import Derived.Laws.Strings
import Derived.Laws.Strings2
import Derived.Lib.OthersKept
namespace Go.Proofs.Ytpbhdblkjabdlaa
open Go.RowKit Go.Lib
def nxV (s : ByteArray) (i : Int) : Value := if i < (s.size : Int) then .tuple #[.bool true, .int .i64 i, .int .i32 (rnS s i)] else .tuple #[.bool false]
section
variable {P : Program} {T : List Nat} {own : Own} {a : Act} {w : World} {d : Nat} {x y : Operand} {t e ty t2 : TypeId} {pos : String} {after : Array Edge} {guard : Option (Nat × Bool)} {s s' : ByteArray}
theorem or_lenS {r : Int} (hT : P.underlying t = some .string) (hx : a.eval x = .string s) (hr : (s.size : Int) = r) :
    OpR P ⟨some d, .call ⟨.builtin .len, #[x], #[t]⟩, ty, pos, after, guard⟩ a w (Post T own a w (Fct.val d (.int .i64 r)) (some d)) :=
  or_val (o := ⟨some d, .call ⟨.builtin .len, #[x], #[t]⟩, ty, pos, after, guard⟩) rfl (by
    subst hr
    have : (Builtin.len_ #[t] ty #[.string s]).run P w = .ok (goInt s.size) w := run_len_string w t ty s hT
    simp only [execOp, resolve, invoke, builtin, List.map_toArray, List.map_cons, List.map_nil, hx]
    simp [Sem.run_bind, this, goInt])
theorem cutS_some {i j : Int} {r : ByteArray} (h : cutS s i j = some r) : (0 ≤ i ∧ i ≤ j ∧ j ≤ (s.size : Int)) ∧ r = s.extract i.toNat j.toNat := by
  unfold cutS at h
  split at h
  · injection h with h; exact ⟨by assumption, h.symm⟩
  · cases h
theorem run_slice_str {lo hi : Option Operand} {i j : Int} (hT : P.underlying t = some .string) (hl : Bnd a lo i 0) (hh : Bnd a hi j (s.size : Int)) (h0 : 0 ≤ i) (h1 : i ≤ j) (h2 : j ≤ (s.size : Int)) :
    (Instr.slice t (.string s) (lo.map a.eval) (hi.map a.eval) none).run P w = .ok (.string (s.extract i.toNat j.toNat)) w := by
  have key : (Instr.sliceBounds false s.size s.size (lo.map a.eval) (hi.map a.eval) none).run P w = .ok (i.toNat, j.toNat, s.size) w := by
    unfold Instr.sliceBounds
    cases hi with
    | none =>
      have hj : j = (s.size : Int) := hh
      subst hj
      cases lo with
      | none =>
        have hi : i = 0 := hl
        subst hi
        simp [Sem.run_bind]
      | some lo =>
        obtain ⟨k, hk⟩ := hl
        simp [Sem.run_bind, run_bound (P := P) (w := w) (y := s.size) hk h0 (by omega)]
    | some hi =>
      obtain ⟨k2, hk2⟩ := hh
      cases lo with
      | none =>
        have hi : i = 0 := hl
        subst hi
        simp [Sem.run_bind, run_bound (P := P) (w := w) (y := s.size) hk2 (by omega) h2]
      | some lo =>
        obtain ⟨k, hk⟩ := hl
        simp [Sem.run_bind, run_bound (P := P) (w := w) (y := s.size) hk2 (by omega) h2, run_bound (P := P) (w := w) (y := j.toNat) hk h0 (by omega)]
  simp [Instr.slice, Sem.run_bind, run_underlying hT, key]
theorem or_sliceS {lo hi : Option Operand} {i j : Int} {r : ByteArray} (hT : P.underlying t = some .string) (hx : a.eval x = .string s) (hl : Bnd a lo i 0) (hh : Bnd a hi j (s.size : Int)) (hr : cutS s i j = some r) :
    OpR P ⟨some d, .slice t x lo hi none, ty, pos, after, guard⟩ a w (Post T own a w (Fct.val d (.string r)) (some d)) :=
  or_val (o := ⟨some d, .slice t x lo hi none, ty, pos, after, guard⟩) rfl (by
    obtain ⟨⟨h0, h1, h2⟩, rfl⟩ := cutS_some hr
    simp only [execOp, hx]
    have := run_slice_str (P := P) (a := a) (w := w) hT hl hh h0 h1 h2
    simp [Sem.run_bind, run_sliceAt_string w t _ _ _ _ hT, this])
theorem or_eqlS {b : Bool} (hT : P.underlying t = some .string) (hx : a.eval x = .string s) (hy : a.eval y = .string s') (hb : eqS s s' = b) : OpR P ⟨some d, .binOp .eql t x y t2, ty, pos, after, guard⟩ a w (Post T own a w (Fct.val d (.bool b)) (some d)) :=
  or_val (o := ⟨some d, .binOp .eql t x y t2, ty, pos, after, guard⟩) rfl (by subst hb; simp only [execOp, hx, hy]; simp [Sem.run_bind, go_sem, eqS])
theorem or_neqS {b : Bool} (hT : P.underlying t = some .string) (hx : a.eval x = .string s) (hy : a.eval y = .string s') (hb : (!eqS s s') = b) : OpR P ⟨some d, .binOp .neq t x y t2, ty, pos, after, guard⟩ a w (Post T own a w (Fct.val d (.bool b)) (some d)) :=
  or_val (o := ⟨some d, .binOp .neq t x y t2, ty, pos, after, guard⟩) rfl (by subst hb; simp only [execOp, hx, hy]; simp [Sem.run_bind, go_sem, eqS])
theorem or_lssS {b : Bool} (hx : a.eval x = .string s) (hy : a.eval y = .string s') (hb : ltS s s' = b) : OpR P ⟨some d, .binOp .lss t x y t2, ty, pos, after, guard⟩ a w (Post T own a w (Fct.val d (.bool b)) (some d)) :=
  or_val (o := ⟨some d, .binOp .lss t x y t2, ty, pos, after, guard⟩) rfl (by subst hb; simp only [execOp, hx, hy]; simp [Sem.run_bind, go_sem, ltS])
end
def SitO (own : Own) (lab : Nat) (w : World) (g : Nat) (ty : TypeId) (cs : Array Value) : Prop :=
  own g = lab ∧ ∃ (s : ByteArray) (i : Int), cs = #[.string s, .int .i64 i] ∧ 0 ≤ i ∧ w.heap[g]? = some (.stringIter s i.toNat)
theorem SitO.lt {own : Own} {lab : Nat} {w : World} {g : Nat} {ty : TypeId} {cs : Array Value} (h : SitO own lab w g ty cs) : g < w.heap.size := by
  obtain ⟨_, s, i, _, _, h⟩ := h
  exact (Array.getElem?_eq_some_iff.1 h).1
theorem SitO.evo {T : List Nat} {own own' : Own} {w w' : World} {lab g : Nat} {ty : TypeId} {cs : Array Value} (hl : lab ∉ T) (he : Evo T own own' w w') (h : SitO own lab w g ty cs) : SitO own' lab w' g ty cs := by
  have hlt := h.lt
  obtain ⟨h1, s, i, h2, h3, h4⟩ := h
  have k := he.keep g hlt (fun hm => by rw [h1] at hm; exact (hl hm).elim)
  exact ⟨k.1.trans h1, s, i, h2, h3, k.2.trans h4⟩
theorem SitO.rl_ {own : Own} {w : World} {lab : Nat} {mm : List (Nat × Nat)} {g : Nat} {ty : TypeId} {cs : Array Value} (h : SitO own lab w g ty cs) : SitO (rl mm own) (look mm lab) w g ty cs := ⟨by show look mm (own g) = _; rw [h.1], h.2⟩
def Fct.sit (lab d : Nat) (ty : TypeId) (cs : Array Value) : Fct :=
  Fct.mems [lab] d (fun g : Nat => .pointer (some ⟨g, 0, none⟩)) (fun g own w => SitO own lab w g ty cs) (fun hk he h => h.evo (not_hit hk (List.mem_singleton.2 rfl)) he)
section
variable {P : Program} {T : List Nat} {own : Own} {a : Act} {w : World} {d : Nat} {x y : Operand} {t e ty t2 : TypeId} {pos : String} {after : Array Edge} {guard : Option (Nat × Bool)} {s s' : ByteArray}
theorem or_rangeS {lab : Nat} (hT : P.underlying t = some .string) (hx : a.eval x = .string s) :
    OpR P ⟨some d, .range t x, ty, pos, after, guard⟩ a w (Post T own a w (Fct.sit lab d 0 #[.string s, .int .i64 0]) (some d)) := by
  unfold OpR Oper.wp
  have : (execOp a.eval ⟨some d, .range t x, ty, pos, after, guard⟩).run P w = .ok (.value (.pointer (some ⟨w.heap.size, 0, none⟩))) (w.alloc (.stringIter s 0)) := by
    simp only [execOp, hx]
    simp [Sem.run_bind, run_range_string w t s hT, World.iter]
  rw [this]
  exact ⟨_, rfl, mvOwn w T lab own, Evo.ofAlloc T lab own w _, fun a' ha => ⟨w.heap.size, ha.1 d rfl, mvOwn_new (Nat.le_refl _), s, 0, rfl, by omega, heap_alloc_new w _⟩⟩
theorem or_nextS {lab lab2 g : Nat} {i : Int} {ut : TypeId} {f : Fct} (hx : a.eval x = .pointer (some ⟨g, 0, none⟩)) (h : SitO own lab w g ut #[.string s, .int .i64 i]) (hg : lab ∈ T) (h0 : lab ≠ 0)
    (hf : ∀ (own' : Own) (a' : Act) (w' : World), a'.eval (.tmp d) = nxV s i → SitO own' lab2 w' g ut #[.string s, .int .i64 (nxS s i)] → f.p own' a' w') :
    OpR P ⟨some d, .next x true, ty, pos, after, guard⟩ a w (Post T own a w f (some d)) := by
  obtain ⟨h1, s', i', h2, h3, h4⟩ := h
  have e : s' = s ∧ i' = i := by simpa using h2.symm
  obtain ⟨rfl, rfl⟩ := e
  have hlt := (Array.getElem?_eq_some_iff.1 h4).1
  unfold OpR Oper.wp
  by_cases hi : i' < (s'.size : Int)
  · have hr := run_next_any_at (P := P) w g s' i'.toNat ty h4 (by omega)
    have hr' : (execOp a.eval ⟨some d, .next x true, ty, pos, after, guard⟩).run P w = .ok (.value (nxV s' i')) (w.iterAt g s' (i'.toNat + (Utf8.decode s' i'.toNat).2)) := by
      simp only [execOp, hx]
      have e1 : nxV s' i' = .tuple #[.bool true, .int .i64 (i'.toNat : Int), .int .i32 ((Utf8.decode s' i'.toNat).1 : Nat)] := by
        unfold nxV rnS; rw [if_pos hi, Int.toNat_of_nonneg h3]
      rw [e1]
      simp [Sem.run_bind, hr]
    rw [hr']
    refine ⟨_, rfl, mvOwn w T lab2 own, Evo.ofSet (g := g) (by rw [h1]; exact hg) (by rw [h1]; exact h0) ⟨rfl, rfl, rfl, by simp [World.iterAt], fun b _ hne => ?_⟩, fun a' ha => hf _ a' _ (ha.1 d rfl) ⟨mvOwn_struck (by rw [h1]; exact hg) (by rw [h1]; exact h0), s', nxS s' i', rfl, ?_, ?_⟩⟩
    · have hne' : g ≠ b := fun q => hne (by rw [q])
      simp [World.iterAt, Array.getElem?_setIfInBounds, hne']
    · unfold nxS; rw [if_pos hi]; omega
    · have e2 : (nxS s' i').toNat = i'.toNat + (Utf8.decode s' i'.toNat).2 := by unfold nxS; rw [if_pos hi]; omega
      rw [e2]
      simp [World.iterAt, hlt]
  · have hr := run_next_end_at (P := P) w g s' i'.toNat ty h4 (by omega)
    have hr' : (execOp a.eval ⟨some d, .next x true, ty, pos, after, guard⟩).run P w = .ok (.value (nxV s' i')) w := by
      simp only [execOp, hx]
      have e1 : nxV s' i' = .tuple #[.bool false] := by unfold nxV; rw [if_neg hi]
      rw [e1]
      simp [Sem.run_bind, hr]
    rw [hr']
    refine ⟨_, rfl, mvOwn w T lab2 own, Evo.mv T lab2 own rfl rfl rfl (Nat.le_refl _) (fun _ _ _ => rfl), fun a' ha => hf _ a' _ (ha.1 d rfl) ⟨mvOwn_struck (by rw [h1]; exact hg) (by rw [h1]; exact h0), s', nxS s' i', rfl, ?_, ?_⟩⟩
    · unfold nxS; rw [if_neg hi]; exact h3
    · unfold nxS; rw [if_neg hi]; exact h4
theorem or_nx0 {i : Int} {b : Bool} (hx : a.eval x = nxV s i) (hb : decide (i < (s.size : Int)) = b) : OpR P ⟨some d, .extract x 0, ty, pos, after, guard⟩ a w (Post T own a w (Fct.val d (.bool b)) (some d)) :=
  or_val (o := ⟨some d, .extract x 0, ty, pos, after, guard⟩) rfl (by
    subst hb
    unfold nxV at hx
    by_cases hi : i < (s.size : Int)
    · rw [if_pos hi] at hx; rw [decide_eq_true hi]; simp only [execOp, hx]; rfl
    · rw [if_neg hi] at hx; rw [decide_eq_false hi]; simp only [execOp, hx]; rfl)
theorem or_nx1 {i : Int} (hx : a.eval x = nxV s i) (hi : decide (i < (s.size : Int)) = true) : OpR P ⟨some d, .extract x 1, ty, pos, after, guard⟩ a w (Post T own a w (Fct.val d (.int .i64 i)) (some d)) :=
  or_val (o := ⟨some d, .extract x 1, ty, pos, after, guard⟩) rfl (by
    unfold nxV at hx
    rw [if_pos (of_decide_eq_true hi)] at hx; simp only [execOp, hx]; rfl)
theorem or_nx2 {i : Int} (hx : a.eval x = nxV s i) (hi : decide (i < (s.size : Int)) = true) : OpR P ⟨some d, .extract x 2, ty, pos, after, guard⟩ a w (Post T own a w (Fct.val d (.int .i32 (rnS s i))) (some d)) :=
  or_val (o := ⟨some d, .extract x 2, ty, pos, after, guard⟩) rfl (by
    unfold nxV at hx
    rw [if_pos (of_decide_eq_true hi)] at hx; simp only [execOp, hx]; rfl)
def Fct.sitAt (lab g : Nat) (ty : TypeId) (cs : Array Value) : Fct := ⟨[lab], [], fun own _ w => SitO own lab w g ty cs, fun hk _ he h => h.evo (not_hit hk (List.mem_singleton.2 rfl)) he⟩
theorem or_gtrS {b : Bool} (hx : a.eval x = .string s) (hy : a.eval y = .string s') (hb : (!ltS s s' && !eqS s s') = b) : OpR P ⟨some d, .binOp .gtr t x y t2, ty, pos, after, guard⟩ a w (Post T own a w (Fct.val d (.bool b)) (some d)) :=
  or_val (o := ⟨some d, .binOp .gtr t x y t2, ty, pos, after, guard⟩) rfl (by subst hb; simp only [execOp, hx, hy]; simp [Sem.run_bind, go_sem, binOp, Op.stringOp, ltS, eqS])
end
end Go.Proofs.Ytpbhdblkjabdlaa
