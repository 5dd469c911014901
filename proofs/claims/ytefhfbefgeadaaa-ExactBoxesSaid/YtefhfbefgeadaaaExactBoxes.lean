/-
  The law ExactBoxes: whatever the input, the call returns true, and nothing that was there turns. Conditions: none.
-/
import Derived.Test.YtefhfbefgeadaaaKnown01
import Derived.Test.YtefhfbefgeadaaaExact7
import Derived.Test.YtefhfbefgeadaaaOfs
import Derived.Test.YtefhfbefgeadaaaFrame
import Derived.Deep.DeepCutAuto
import Derived.Deep.LoopGhost
namespace Go.Proofs.Ytefhfbefgeadaaa
open Go.RowKit

theorem boxFold_in (l : List Pt) (b : Pt × Pt) : ((boxFold b l).1.1 ≤ b.1.1 ∧ (boxFold b l).1.2 ≤ b.1.2 ∧ b.2.1 ≤ (boxFold b l).2.1 ∧ b.2.2 ≤ (boxFold b l).2.2) ∧
    ∀ q ∈ l, (boxFold b l).1.1 ≤ q.1 ∧ (boxFold b l).1.2 ≤ q.2 ∧ q.1 ≤ (boxFold b l).2.1 ∧ q.2 ≤ (boxFold b l).2.2 := by
  induction l generalizing b with
  | nil => simp [boxFold]
  | cons p r ih =>
    have h := ih ((min b.1.1 p.1, min b.1.2 p.2), (max b.2.1 p.1, max b.2.2 p.2))
    simp only [boxFold]
    generalize boxFold ((min b.1.1 p.1, min b.1.2 p.2), (max b.2.1 p.1, max b.2.2 p.2)) r = x at *
    obtain ⟨h1, h2⟩ := h
    simp only at h1
    refine ⟨by omega, fun q hq => ?_⟩
    rcases List.mem_cons.1 hq with rfl | hq
    · omega
    · exact h2 q hq
theorem boxFold_touch (l : List Pt) (b : Pt × Pt) : ((boxFold b l).1.1 = b.1.1 ∨ ∃ q ∈ l, q.1 = (boxFold b l).1.1) ∧ ((boxFold b l).1.2 = b.1.2 ∨ ∃ q ∈ l, q.2 = (boxFold b l).1.2) ∧
    ((boxFold b l).2.1 = b.2.1 ∨ ∃ q ∈ l, q.1 = (boxFold b l).2.1) ∧ ((boxFold b l).2.2 = b.2.2 ∨ ∃ q ∈ l, q.2 = (boxFold b l).2.2) := by
  induction l generalizing b with
  | nil => simp [boxFold]
  | cons p r ih =>
    have h := ih ((min b.1.1 p.1, min b.1.2 p.2), (max b.2.1 p.1, max b.2.2 p.2))
    simp only [boxFold]
    generalize boxFold ((min b.1.1 p.1, min b.1.2 p.2), (max b.2.1 p.1, max b.2.2 p.2)) r = x at *
    obtain ⟨h1, h2, h3, h4⟩ := h
    simp only at h1 h2 h3 h4
    refine ⟨?_, ?_, ?_, ?_⟩
    · rcases h1 with h | ⟨q, hq, e⟩
      · by_cases hc : p.1 < b.1.1
        · exact .inr ⟨p, by simp, by omega⟩
        · exact .inl (by omega)
      · exact .inr ⟨q, by simp [hq], e⟩
    · rcases h2 with h | ⟨q, hq, e⟩
      · by_cases hc : p.2 < b.1.2
        · exact .inr ⟨p, by simp, by omega⟩
        · exact .inl (by omega)
      · exact .inr ⟨q, by simp [hq], e⟩
    · rcases h3 with h | ⟨q, hq, e⟩
      · by_cases hc : b.2.1 < p.1
        · exact .inr ⟨p, by simp, by omega⟩
        · exact .inl (by omega)
      · exact .inr ⟨q, by simp [hq], e⟩
    · rcases h4 with h | ⟨q, hq, e⟩
      · by_cases hc : b.2.2 < p.2
        · exact .inr ⟨p, by simp, by omega⟩
        · exact .inl (by omega)
      · exact .inr ⟨q, by simp [hq], e⟩

/-- What 'touched' holds after some points. -/
def touch (f : Pt → Int) (x : Int) (l : List Pt) : Bool := l.any fun q => f q == x
theorem touch_succ (f : Pt → Int) (x : Int) (l : List Pt) (k : Nat) (hk : k < l.length) : touch f x (l.take (k + 1)) = (touch f x (l.take k) || f l[k] == x) := by
  rw [List.take_succ_eq_append_getElem hk]; simp only [touch, List.any_append, List.any_cons, List.any_nil, Bool.or_false]

/-- The world in the loop: low, high, 'touched', and what was there. -/
def BoxW (w wx : World) (gl gh gt : Nat) (lo hi : Pt) (t0 t1 t2 t3 : Bool) : Prop :=
  Blk wx gl 29 #[.int .i64 lo.1, .int .i64 lo.2] ∧ Blk wx gh 29 #[.int .i64 hi.1, .int .i64 hi.2] ∧ Blk wx gt 45 #[.bool t0, .bool t1, .bool t2, .bool t3] ∧ Below w.heap.size w wx ∧ gl ≠ gt ∧ gh ≠ gt ∧ w.heap.size ≤ gt
theorem BoxW.alloc {w wx : World} {gl gh gt : Nat} {lo hi : Pt} {t0 t1 t2 t3 : Bool} (h : BoxW w wx gl gh gt lo hi t0 t1 t2 t3) (o : Obj) : BoxW w (wx.alloc o) gl gh gt lo hi t0 t1 t2 t3 :=
  ⟨h.1.alloc o, h.2.1.alloc o, h.2.2.1.alloc o, h.2.2.2.1.alloc h.2.2.2.1.size o, h.2.2.2.2⟩
theorem BoxW.below {w wx wy : World} {gl gh gt : Nat} {lo hi : Pt} {t0 t1 t2 t3 : Bool} (h : BoxW w wx gl gh gt lo hi t0 t1 t2 t3) (hb : Below wx.heap.size wx wy) : BoxW w wy gl gh gt lo hi t0 t1 t2 t3 :=
  ⟨h.1.below hb h.1.lt, h.2.1.below hb h.2.1.lt, h.2.2.1.below hb h.2.2.1.lt, h.2.2.2.1.trans (hb.mono h.2.2.2.1.size), h.2.2.2.2⟩
theorem BoxW.set {w wx : World} {gl gh gt : Nat} {lo hi : Pt} {t0 t1 t2 t3 : Bool} (h : BoxW w wx gl gh gt lo hi t0 t1 t2 t3) (t : Bool) :
    BoxW w (wx.setCell ⟨gt, 0, none⟩ (.bool t)) gl gh gt lo hi t t1 t2 t3 ∧ BoxW w (wx.setCell ⟨gt, 1, none⟩ (.bool t)) gl gh gt lo hi t0 t t2 t3 ∧
    BoxW w (wx.setCell ⟨gt, 2, none⟩ (.bool t)) gl gh gt lo hi t0 t1 t t3 ∧ BoxW w (wx.setCell ⟨gt, 3, none⟩ (.bool t)) gl gh gt lo hi t0 t1 t2 t := by
  obtain ⟨h1, h2, h3, h4, h5, h6, h7⟩ := h
  exact ⟨⟨h1.far (p := ⟨gt, 0, none⟩) h5 _, h2.far (p := ⟨gt, 0, none⟩) h6 _, h3.set_ 0 _, h4.setCell h7 _, h5, h6, h7⟩,
    ⟨h1.far (p := ⟨gt, 1, none⟩) h5 _, h2.far (p := ⟨gt, 1, none⟩) h6 _, h3.set_ 1 _, h4.setCell h7 _, h5, h6, h7⟩,
    ⟨h1.far (p := ⟨gt, 2, none⟩) h5 _, h2.far (p := ⟨gt, 2, none⟩) h6 _, h3.set_ 2 _, h4.setCell h7 _, h5, h6, h7⟩,
    ⟨h1.far (p := ⟨gt, 3, none⟩) h5 _, h2.far (p := ⟨gt, 3, none⟩) h6 _, h3.set_ 3 _, h4.setCell h7 _, h5, h6, h7⟩⟩

theorem arr_eq : ∀ W : World, (binOp .eql 45 (.agg #[.bool true, .bool true, .bool true, .bool true]) (.agg #[.bool true, .bool true, .bool true, .bool true])).run Try.prog W = .ok (.bool true) W := fun _ => by kernel_rfl

set_option maxRecDepth 100000 in
set_option maxHeartbeats 8000000 in
theorem exactBoxes_core (A : Option Addr) (n c m : Nat) (l : List Pt) (w : World) (hnc : n ≤ c) (hcm : c ≤ 9223372036854775807) (hm : m = min n 50) (hl : l.length = m) (hr : Reads w w.heap.size 2 A m (ptC l)) :
    Calls Try.prog 5 #[.slice A n c] w fun e w' => e = .returned (.bool true) ∧ Below w.heap.size w w' := by
  have HM := Lib.hid hm
  have hmle : m ≤ 50 := by omega
  have HL := Lib.hid hl
  clear hm hl
  go_enter Try.func5, Try.ntmps5
  go_upto_region 1 with fail
  go_cut [0] (fun s wx => s = .slice A m c ∧ wx = w)
  case first =>
    have hm := HM.out
    by_cases h : n ≤ 50
    · have e : m = n := by omega
      have HE := Lib.hid e
      clear e hm
      go_wp2_with fail
      go_meet
      exact ⟨by rw [HE.out] <;> rfl, rfl⟩
    · have e : m = 50 := by omega
      have HE := Lib.hid e
      clear e hm
      go_wp2_with fail
      go_meet
      exact ⟨by rw [HE.out] <;> rfl, rfl⟩
  case rest =>
    obtain ⟨rfl, hwc⟩ := hcut
    subst hwc
    by_cases hno : l = [] ∨ rightAll l = false
    · have HN := Lib.hid hno
      clear hno
      by_cases h0 : 0 < m
      · have HR : Hid (rightAll l = false) := by
          rcases HN.out with h | h
          · exfalso; have := HL.out; rw [h] at this; simp at this; omega
          · exact h
        go_wp2_with fail
        refine (box_none _ _ _ l _ hr HL.out (by omega) HN.out).mono ?_
        rintro e w1 ⟨rfl, hb1⟩
        have hs1 := hb1.size
        go_wp2_with fail
        refine (ofs_any _ _ _ l _ ?_ HL.out (by omega)).mono ?_
        · exact (((hr.below hb1).alloc hs1 _).alloc (by simp; omega) _).more (by simp; omega)
        rintro e w2 ⟨v2, rfl, hown, hb2⟩
        obtain ⟨A2, c2, rfl, hc2, hc3, hr2⟩ := own_slice hown
        go_wp2_with fail
        refine (all_any _ _ _ l _ hr2 HL.out (by omega)).mono ?_
        rintro e w3 ⟨rfl, hb3⟩
        rw [HR.out]
        replace hb3 := hb2.trans (hb3.mono hb2.size)
        go_wp2_with fail
        refine (known_any _).mono ?_
        rintro e w4 ⟨rfl, hb4⟩
        replace hb4 := hb3.trans (hb4.mono hb3.size)
        obtain ⟨kc, kf⟩ := bcell hb4
        go_wp2_with fail
        go_ret
        exact ⟨rfl, (((hb1.alloc hs1 _).alloc (by simp; omega) _)).trans (hb4.mono (by simp; omega))⟩
      · go_wp2_with fail
        refine (box_none _ _ _ l _ hr HL.out (by omega) HN.out).mono ?_
        rintro e w1 ⟨rfl, hb1⟩
        have hs1 := hb1.size
        go_wp2_with fail
        refine (known_any _).mono ?_
        rintro e w4 ⟨rfl, hb4⟩
        obtain ⟨kc, kf⟩ := bcell hb4
        go_wp2_with fail
        go_ret
        exact ⟨rfl, (((hb1.alloc hs1 _).alloc (by simp; omega) _)).trans (hb4.mono (by simp; omega))⟩
    · obtain ⟨p, r, rfl⟩ : ∃ p r, l = p :: r := by
        cases l with
        | nil => exact absurd (.inl rfl) hno
        | cons p r => exact ⟨p, r, rfl⟩
      have hR : rightAll (p :: r) = true := by
        cases h : rightAll (p :: r)
        · exact absurd (.inr h) hno
        · rfl
      have hin := (boxFold_in (p :: r) (p, p)).2
      have hto := boxFold_touch (p :: r) (p, p)
      have h0 : 0 < m := by have := HL.out; simp at this; omega
      have HR := Lib.hid hR
      have CB := Lib.hid (box_some A m c p r wc hr HL.out (by omega) hR)
      clear hno hR
      generalize boxFold (p, p) (p :: r) = b at *
      obtain ⟨lo, hi⟩ := b
      simp only at hin hto
      have HI := Lib.hid hin
      have HT := Lib.hid hto
      clear hin hto
      go_wp2_with fail
      refine CB.out.mono ?_
      rintro e w1 ⟨rfl, hb1⟩
      have hs1 := hb1.size
      go_wp2_with fail
      refine (ofs_any _ _ _ (p :: r) _ ?_ HL.out (by omega)).mono ?_
      · exact (((hr.below hb1).alloc hs1 _).alloc (by simp; omega) _).more (by simp; omega)
      rintro e w2 ⟨v2, rfl, hown, hb2⟩
      obtain ⟨A2, c2, rfl, hc2, hc3, hr2⟩ := own_slice hown
      go_wp2_with fail
      refine (all_any _ _ _ (p :: r) _ hr2 HL.out (by omega)).mono ?_
      rintro e w3 ⟨rfl, hb3⟩
      rw [HR.out]
      replace hb3 := hb2.trans (hb3.mono hb2.size)
      have hs3 := hb3.size
      simp at hs3
      have hbw : Below wc.heap.size wc w3 := (((hb1.alloc hs1 _).alloc (by simp; omega) _)).trans (hb3.mono (by simp; omega))
      have b3 : Blk w3 w1.heap.size 29 #[.int .i64 lo.1, .int .i64 lo.2] := ((Blk.new w1 _ _).alloc _).below hb3 (by simp <;> omega)
      have b4 : Blk w3 (w1.heap.size + 1) 29 #[.int .i64 hi.1, .int .i64 hi.2] := (Blk.new' (by simp)).below hb3 (by simp <;> omega)
      have H3 : BoxW wc (w3.alloc (.cells #[.bool false, .bool false, .bool false, .bool false] 45)) w1.heap.size (w1.heap.size + 1) w3.heap.size lo hi false false false false :=
        ⟨b3.alloc _, b4.alloc _, Blk.new' rfl, hbw.alloc hbw.size _, by omega, by omega, hbw.size⟩
      clear b3 b4 hb3 hb2 hb1 hown hr2
      have HRd := Lib.hid (fun wx (h : Below wc.heap.size wc wx) => hr.below h)
      have HSu := Lib.hid (fun (f : Pt → Int) (x : Int) (k : Nat) (hk : k < (p :: r).length) => touch_succ f x (p :: r) k hk)
      have hne : w1.heap.size ≠ w3.heap.size := by omega
      have hne2 : w1.heap.size + 1 ≠ w3.heap.size := by omega
      have hTT : touch Prod.fst lo.1 (p :: r) = true ∧ touch Prod.fst hi.1 (p :: r) = true ∧ touch Prod.snd lo.2 (p :: r) = true ∧ touch Prod.snd hi.2 (p :: r) = true := by
        obtain ⟨h1, h2, h3, h4⟩ := HT.out
        simp only [touch, List.any_eq_true, beq_iff_eq]
        refine ⟨?_, ?_, ?_, ?_⟩
        · rcases h1 with h | ⟨q, hq, e⟩
          · exact ⟨p, by simp, h.symm⟩
          · exact ⟨q, hq, e⟩
        · rcases h3 with h | ⟨q, hq, e⟩
          · exact ⟨p, by simp, h.symm⟩
          · exact ⟨q, hq, e⟩
        · rcases h2 with h | ⟨q, hq, e⟩
          · exact ⟨p, by simp, h.symm⟩
          · exact ⟨q, hq, e⟩
        · rcases h4 with h | ⟨q, hq, e⟩
          · exact ⟨p, by simp, h.symm⟩
          · exact ⟨q, hq, e⟩
      have HTT := Lib.hid hTT
      clear hTT hr hbw
      go_wp2_with fail
      generalize w1.heap.size = gl at *
      generalize w3.heap.size = gt at *
      go_loopg [7] m (fun g i wr => ∃ k : Nat, k + g = m ∧ i = .int .i64 k ∧ BoxW wc wr gl (gl + 1) gt lo hi (touch Prod.fst lo.1 ((p :: r).take k)) (touch Prod.fst hi.1 ((p :: r).take k)) (touch Prod.snd lo.2 ((p :: r).take k)) (touch Prod.snd hi.2 ((p :: r).take k)))
      case atStart => exact ⟨0, by omega, rfl, H3⟩
      case round =>
        obtain ⟨k, hkm, rfl, hW⟩ := hrel
        have HK := Lib.hid hkm
        by_cases hlt : k < m
        · have hk : k < (p :: r).length := by rw [HL.out]; exact hlt
          obtain ⟨b, off, rfl, hbb, hc⟩ := (HRd.out wr hW.2.2.2.1).pt HL.out (by omega)
          obtain ⟨c0, c1⟩ := hc k hlt
          have hq := HI.out _ (List.getElem_mem hk)
          have S0 := Lib.hid (HSu.out Prod.fst lo.1 k hk)
          have S1 := Lib.hid (HSu.out Prod.fst hi.1 k hk)
          have S2 := Lib.hid (HSu.out Prod.snd lo.2 k hk)
          have S3 := Lib.hid (HSu.out Prod.snd hi.2 k hk)
          clear hc
          generalize (p :: r)[k]'hk = q at *
          generalize touch Prod.fst lo.1 ((p :: r).take k) = t0 at *
          generalize touch Prod.fst hi.1 ((p :: r).take k) = t1 at *
          generalize touch Prod.snd lo.2 ((p :: r).take k) = t2 at *
          generalize touch Prod.snd hi.2 ((p :: r).take k) = t3 at *
          have hWs := hW.2.2.2.1.size
          have l1 := hW.1.lt
          have l2 := hW.2.1.lt
          have l3 := hW.2.2.1.lt
          obtain ⟨e0, e1, _, _⟩ := hW.1.pt
          obtain ⟨e2, e3, _, _⟩ := hW.2.1.pt
          have g0 : wr.cell? ⟨gt, 0, none⟩ = some (.bool t0) := hW.2.2.1.cell 0
          have g1 : wr.cell? ⟨gt, 1, none⟩ = some (.bool t1) := hW.2.2.1.cell 1
          have g2 : wr.cell? ⟨gt, 2, none⟩ = some (.bool t2) := hW.2.2.1.cell 2
          have g3 : wr.cell? ⟨gt, 3, none⟩ = some (.bool t3) := hW.2.2.1.cell 3
          have f0 : wr.frozen? ⟨gt, 0, none⟩ = false := hW.2.2.1.frozen 0
          have f1 : wr.frozen? ⟨gt, 1, none⟩ = false := hW.2.2.1.frozen 1
          have f2 : wr.frozen? ⟨gt, 2, none⟩ = false := hW.2.2.1.frozen 2
          have f3 : wr.frozen? ⟨gt, 3, none⟩ = false := hW.2.2.1.frozen 3
          have n8 : gt ≠ wr.heap.size := by omega
          have n8' : wr.heap.size ≠ gt := by omega
          have HWW := Lib.hid hW
          clear hW hkm
          cases t0 <;> cases t1 <;> cases t2 <;> cases t3
          all_goals
              go_wp2_with fail
              go_roundg (gk - 1)
              case measure => have := HK.out; omega
              case rel =>
                refine ⟨k + 1, by have := HK.out; omega, by go_num, ?_⟩
                rw [S0.out, S1.out, S2.out, S3.out]
                exact ((((((((HWW.out.set _).1).set _).2.1).set _).2.2.1).set _).2.2.2).alloc _
        · have hkm' : k = m := by omega
          have HE := Lib.hid hkm'
          have e : (p :: r).take k = p :: r := List.take_of_length_le (by rw [HL.out]; omega)
          rw [e, HTT.out.1, HTT.out.2.1, HTT.out.2.2.1, HTT.out.2.2.2] at hW
          clear e hkm hkm'
          go_wp2_with fail
          refine (known_any _).mono ?_
          rintro e w4 ⟨rfl, hb4⟩
          have hW4 := hW.below hb4
          have g0 : w4.cell? ⟨gt, 0, none⟩ = some (.bool true) := hW4.2.2.1.cell 0
          have g1 : w4.cell? ⟨gt, 1, none⟩ = some (.bool true) := hW4.2.2.1.cell 1
          have g2 : w4.cell? ⟨gt, 2, none⟩ = some (.bool true) := hW4.2.2.1.cell 2
          have g3 : w4.cell? ⟨gt, 3, none⟩ = some (.bool true) := hW4.2.2.1.cell 3
          have HW4 := Lib.hid hW4
          have heq := arr_eq
          clear hW hW4
          go_wp2_with fail
          go_ret
          exact ⟨rfl, HW4.out.2.2.2.1⟩

theorem exactBoxes_walk (A : Option Addr) (n c : Nat) (l full : List Pt) (hnc : n ≤ c) (hcm : c ≤ maxLen) (hln : l.length = n) (_ : l = full.take n) (_ : full.length = c) {w : World} (hr : Reads w w.heap.size 2 A n (ptC l)) (_ : Reads w w.heap.size 2 A c (ptC full)) (_ : ∀ p ∈ full, PtOk p) :
    Calls Try.prog 5 #[.slice A n c] w fun e w' => e = .returned (.bool true) ∧ Below w.heap.size w w' := by
  refine exactBoxes_core A n c (min n 50) (l.take (min n 50)) w hnc (by unfold maxLen at hcm; omega) rfl (by rw [List.length_take]; omega) ?_
  have := hr.take_ (k := min n 50) (by omega)
  rwa [ptC_take] at this
end Go.Proofs.Ytefhfbefgeadaaa
