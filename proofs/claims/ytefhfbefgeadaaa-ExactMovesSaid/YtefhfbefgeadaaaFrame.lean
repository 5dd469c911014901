/-
  The row's step for a law of this seat: out of 'the call returns true, and nothing that was there has turned' the given statement's post; and arguments opened to values. Conditions: none.
-/
import Derived.Test.YtefhfbefgeadaaaVoc
import Derived.Test.YtefhfbefgeadaaaRows
import Derived.ProofKit
import Derived.OpenShut
import Derived.Lib.SmallJoins
import Derived.Deep.SlicePairs
import Derived.Deep.Slices
namespace Go.Proofs.Ytefhfbefgeadaaa
open Go.ChangeShapes Go.WideShapes Go.ChangeAt Go.RowKit Go.Joins Go.Deep

theorem own : ownKnob Try.prog.godebug = none := by kernel_rfl
theorem laidOut : laidOutB Try.prog = true := by kernel_rfl

section
variable {H : Type} {enc : TypeId × Value → H} {P : Program}

theorem trodAll_stays (hl : laidOutB P = true) {W W' : World} (hb : Below W.heap.size W W') {sp : Nat → Bool} :
    ∀ {ts : List TypeId} {vs : List Value} {ds : List (DataW H)} {ps : List MemPlace}, (ts.all fun t => P.readableRec t && decide (t < P.types.size)) = true →
      DataW.TrodAll enc P W 0 (fun _ => true) true ts vs ds ps → (∀ x ∈ ps, x.block < W.heap.size) → (∀ x ∈ ps, sp x.block = true) → DataW.TrodAll enc P W' 0 sp true ts vs ds ps
  | [], [], [], _, _, h, _, _ => h
  | [], _ :: _, _, _, _, h, _, _ => h.elim
  | [], [], _ :: _, _, _, h, _, _ => h.elim
  | _ :: _, [], _, _, _, h, _, _ => h.elim
  | _ :: _, _ :: _, [], _, _, h, _, _ => h.elim
  | t :: ts, v :: vs, d :: ds, ps, hr, h, hlt, hs => by
    obtain ⟨p, q, hp, hq, rfl⟩ := h
    simp only [List.all_cons, Bool.and_eq_true, decide_eq_true_eq] at hr
    exact ⟨p, q, WideElems.Trod_stays hl hr.1.1 hr.1.2 hp (fun x hx => hb.same (hlt x (by simp [hx]))) (fun x hx => hs x (by simp [hx])),
      trodAll_stays hl hb hr.2 hq (fun x hx => hlt x (by simp [hx])) (fun x hx => hs x (by simp [hx])), rfl⟩

theorem post_of_below {f : Func} {s : ChangeSpec} {apart fresh handsOn again : Bool} {W W' : World} {args : Array Value} {v : Value} {ds gs : List (DataW H)} {before pa pv : List MemPlace}
    (hW : DataW.Whole enc P f.params.toList s.vars apart W args.toList ds gs before)
    (hres : ∀ (b : Nat) (sp : Nat → Bool) (hd : Bool), DataW.TrodAll enc P W' b sp hd f.resultTypes.toList (v.resultList f.resultTypes.size) (s.fn H (ds ++ gs)).results [])
    (hargs : ∀ sp : Nat → Bool, (∀ p ∈ before, sp p.block = true) → DataW.TrodAll enc P W' 0 sp true f.params.toList args.toList (s.fn H (ds ++ gs)).args pa)
    (hvars : ∀ sp : Nat → Bool, (∀ p ∈ before, sp p.block = true) → DataW.TrodVars enc P W' sp s.vars (s.fn H (ds ++ gs)).vars pv)
    (hps : before = pa ++ pv) (hb : Below W.heap.size W W')
    (hok : ∀ (j : Nat) (t : TypeId) (r : Value), f.resultTypes[j]? = some t → (v.resultList f.resultTypes.size)[j]? = some r → Value.okWide P W' .any 0 t r) :
    s.post enc P f apart fresh handsOn again W args v W' := by
  have hlt : ∀ p ∈ before, p.block < W.heap.size := fun p hp => hW.lt p hp
  have hold : ∀ p ∈ before, (fun b => decide (b < W.heap.size)) p.block = true := fun p hp => by simpa using hlt p hp
  refine ⟨ds, gs, before, [], pa, pv, hW, hres _ _ _, hargs _ hold, hvars _ hold, World.keptBut_mono (fun p hp => ⟨hp, ?_⟩) (hb.frame (· ∈ before)), fun _ => ?_⟩
  · rw [hps, List.mem_append] at hp
    exact Or.inr hp
  · obtain ⟨_, _, _, _, _, hz, hn⟩ := hW
    refine ⟨hok, _, _, ([] ++ pa) ++ pv, ⟨[] ++ pa, pv, trodAll_append (hargs _ (fun _ _ => rfl)) (hres _ _ _), hvars _ (fun _ _ => rfl), rfl, ?_, ?_⟩, ?_⟩
    · intro b off hp
      have hin : MemPlace.cell b off ∈ before := by rw [hps]; simpa using hp
      rw [hb.frozen (hlt _ hin)]
      exact hz b off hin
    · intro ha
      have := hn ha
      rw [hps] at this
      simpa using this
    · intro p hp _
      rw [hps]
      simpa using hp

/-! ### Arguments, opened to values -/
variable {w : World} {base : Nat} {spare : Nat → Bool} {held : Bool}

theorem wf_i64 {a : Int} (h : (Lit.int .i64 a).wf = true) : -9223372036854775808 ≤ a ∧ a ≤ 9223372036854775807 := by
  have h' : (decide (IntKind.i64.min ≤ a) && decide (a ≤ IntKind.i64.max)) = true := h
  rw [Bool.and_eq_true, decide_eq_true_eq, decide_eq_true_eq] at h'
  exact h'
def PtOk (p : Pt) : Prop := (-9223372036854775808 ≤ p.1 ∧ p.1 ≤ 9223372036854775807) ∧ (-9223372036854775808 ≤ p.2 ∧ p.2 ≤ 9223372036854775807)

theorem arg_int {r : Reach} {b0 : Nat} {t : TypeId} {v : Value} {d : DataW H} {p : List MemPlace} (ht : P.underlying t = some (.int .i64)) (hv : Value.okWide P w r b0 t v) (h : DataW.Trod enc P w base spare held t v d p) :
    ∃ a, v = .int .i64 a ∧ -9223372036854775808 ≤ a ∧ a ≤ 9223372036854775807 := by
  obtain ⟨a, rfl, _, _, hw⟩ := open_int ht hv h
  exact ⟨a, rfl, wf_i64 hw⟩

theorem arg_pt {r : Reach} {b0 : Nat} {t : TypeId} {f0 f1 : Field} {v : Value} {d : DataW H} {p : List MemPlace} (hs : P.underlying t = some (.struct #[f0, f1])) (hone : oneCellFields P #[f0, f1] = true) (hC : P.cellsOf t = 2)
    (h0 : P.underlying f0.type = some (.int .i64)) (h1 : P.underlying f1.type = some (.int .i64)) (hv : Value.okWide P w r b0 t v) (h : DataW.Trod enc P w base spare held t v d p) :
    ∃ x y : Int, v = .agg #[.int .i64 x, .int .i64 y] ∧ PtOk (x, y) := by
  obtain ⟨v0, v1, y0, y1, n, rfl, _, _, g0, g1⟩ := open_agg2 hs hone hC hv h
  obtain ⟨x, e0, _, wx⟩ := DataW.trod_int h0 g0
  obtain ⟨y, e1, _, wy⟩ := DataW.trod_int h1 g1
  simp at e0 e1
  subst e0 e1
  exact ⟨x, y, rfl, wf_i64 wx, wf_i64 wy⟩

theorem list_of {n : Nat} (V : Nat → Pt) : ∃ l : List Pt, l.length = n ∧ ∀ k, (h : k < l.length) → l[k] = V k :=
  ⟨(List.range n).map V, by simp, fun k h => by simp⟩

theorem ptC_cell {l : List Pt} {j : Nat} {u : Value} (h : (ptC l)[j]? = some u) : (∃ k, ∃ hk : k < l.length, j = k * 2 ∧ u = .int .i64 l[k].1) ∨ ∃ k, ∃ hk : k < l.length, j = k * 2 + 1 ∧ u = .int .i64 l[k].2 := by
  have hj : j < (ptC l).length := by
    rcases Nat.lt_or_ge j (ptC l).length with h1 | h1
    · exact h1
    · rw [List.getElem?_eq_none h1] at h; cases h
  rw [ptC_length] at hj
  have hk : j / 2 < l.length := by omega
  have hg := ptC_get l (j / 2) hk
  by_cases hp : j % 2 = 0
  · left
    refine ⟨j / 2, hk, by omega, ?_⟩
    rw [show j / 2 * 2 = j by omega] at hg
    rw [h] at hg
    simpa using hg.1
  · right
    refine ⟨j / 2, hk, by omega, ?_⟩
    rw [show j / 2 * 2 + 1 = j by omega] at hg
    rw [h] at hg
    simpa using hg.2

theorem reads_of_pts {w : World} {a : Addr} {n B : Nat} {l : List Pt} (hl : l.length = n) (hc : ∀ k, (h : k < l.length) → w.cell? (a.add (k * 2)) = some (.int .i64 l[k].1) ∧ w.cell? (a.add (k * 2 + 1)) = some (.int .i64 l[k].2))
    (hB : 0 < n → a.block < B) : Reads w B 2 (some a) n (ptC l) := by
  refine ⟨by rw [ptC_length, hl], fun hn => ?_⟩
  obtain ⟨b, off, spot⟩ := a
  have h0 := (hc 0 (by omega)).1
  have hspot : spot = none := by simpa [Addr.add] using World.cell?_spot h0
  subst hspot
  refine ⟨b, off, rfl, hB hn, fun j u hu => ?_⟩
  rcases ptC_cell hu with ⟨k, hk, rfl, rfl⟩ | ⟨k, hk, rfl, rfl⟩
  · have := (hc k hk).1
    rwa [Go.WideShapes.add_plain] at this
  · have := (hc k hk).2
    rwa [Go.WideShapes.add_plain] at this

theorem arg_pts {r : Reach} {b0 : Nat} {t e : TypeId} {f0 f1 : Field} {v : Value} {d : DataW H} {p : List MemPlace} (ht : P.underlying t = some (.slice e)) (he : P.underlying e = some (.struct #[f0, f1])) (ce : P.cellsOf e = 2) (o0 : f0.offset = 0) (o1 : f1.offset = 1)
    (c0 : P.cellsOf f0.type = 1) (c1 : P.cellsOf f1.type = 1) (h0 : P.underlying f0.type = some (.int .i64)) (h1 : P.underlying f1.type = some (.int .i64))
    (hv : Value.okWide P w r b0 t v) (h : DataW.Trod enc P w base (fun _ => true) held t v d p) :
    ∃ (A : Option Addr) (n c : Nat) (l full : List Pt), v = .slice A n c ∧ n ≤ c ∧ c ≤ maxLen ∧ l.length = n ∧ l = full.take n ∧ full.length = c ∧ Reads w w.heap.size 2 A n (ptC l) ∧ Reads w w.heap.size 2 A c (ptC full) ∧ ∀ p ∈ full, PtOk p := by
  obtain ⟨A, len, cap, rfl⟩ := okWide_slice ht hv
  obtain ⟨fuel, hf⟩ := h
  rcases open_slice_pairs ht he ce o0 o1 c0 c1 hf with ⟨hcs, _⟩ | ⟨a, n, c, m, k, V0, V1, D0, D1, P0, P1, hcs, hb, hl, hm, hmm, hx, hcell⟩
  · simp [Value.cells] at hcs
    obtain ⟨rfl, rfl, rfl⟩ := hcs
    exact ⟨none, 0, 0, [], [], rfl, Nat.le_refl _, by unfold maxLen; omega, rfl, rfl, rfl, Reads.none_, Reads.none_, by simp⟩
  · simp [Value.cells] at hcs
    obtain ⟨rfl, rfl, rfl⟩ := hcs
    simp only [if_true] at hmm
    subst hmm
    have hi : ∀ i, i < m → ∃ q : Pt, V0 i = .int .i64 q.1 ∧ V1 i = .int .i64 q.2 ∧ PtOk q := by
      intro i him
      obtain ⟨_, _, g0, g1⟩ := hcell i him
      obtain ⟨x, e0, _, wx⟩ := DataW.trod_int h0 g0
      obtain ⟨y, e1, _, wy⟩ := DataW.trod_int h1 g1
      simp at e0 e1
      exact ⟨(x, y), e0, e1, wf_i64 wx, wf_i64 wy⟩
    have hV : ∃ V : Nat → Pt, ∀ i, i < m → V0 i = .int .i64 (V i).1 ∧ V1 i = .int .i64 (V i).2 ∧ PtOk (V i) := by
      refine ⟨fun i => if h : i < m then Classical.choose (hi i h) else (0, 0), fun i him => ?_⟩
      have := Classical.choose_spec (hi i him)
      simpa [him] using this
    obtain ⟨V, hV⟩ := hV
    obtain ⟨full, hfl, hfk⟩ := list_of (n := m) V
    have hread : Reads w w.heap.size 2 (some a) m (ptC full) := by
      refine reads_of_pts hfl (fun k hk => ?_) (fun h0 => ?_)
      · obtain ⟨g0, g1, _, _⟩ := hcell k (by omega)
        obtain ⟨e0, e1, _⟩ := hV k (by omega)
        rw [g0, g1, e0, e1, hfk k hk]
        exact ⟨rfl, rfl⟩
      · have g := (hcell 0 h0).1
        have := World.block_lt_of_cell? w _ g
        unfold Addr.add at this
        split at this <;> exact this
    refine ⟨some a, len, m, full.take len, full, rfl, hl, hm, by rw [List.length_take]; omega, rfl, hfl, ?_, hread, ?_⟩
    · have := hread.take_ hl
      rwa [ptC_take] at this
    · intro p hp
      obtain ⟨k, hk, rfl⟩ := List.getElem_of_mem hp
      rw [hfk k hk]
      exact (hV k (by omega)).2.2
end
end Go.Proofs.Ytefhfbefgeadaaa
