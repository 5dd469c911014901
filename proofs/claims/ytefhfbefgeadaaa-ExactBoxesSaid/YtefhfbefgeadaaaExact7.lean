/-
  Contract of package exact: Box.
-/
import Derived.Test.YtefhfbefgeadaaaExact1
import Derived.RegionTactic
import Derived.BigRegion
import Derived.ChangeAlike
import Derived.Deep.DeepCutAuto
import Derived.Deep.LoopGhost
namespace Go.Proofs.Ytefhfbefgeadaaa
open Go.RowKit

/-- The box of a list: least and greatest numbers. -/
def boxFold : Pt × Pt → List Pt → Pt × Pt
  | b, [] => b
  | b, p :: r => boxFold ((min b.1.1 p.1, min b.1.2 p.2), (max b.2.1 p.1, max b.2.2 p.2)) r

set_option maxHeartbeats 1000000 in
theorem box_none (A : Option Addr) (n c : Nat) (l : List Pt) (w : World) (hr : Reads w w.heap.size 2 A n (ptC l)) (hl : l.length = n) (hn : n ≤ 9223372036854775807) (hno : l = [] ∨ rightAll l = false) :
    Calls Try.prog 26 #[.slice A n c] w fun e w' => e = .returned (.tuple #[.agg #[.int .i64 0, .int .i64 0], .agg #[.int .i64 0, .int .i64 0], .bool false]) ∧ Below w.heap.size w w' := by
  rcases hno with h | h
  · subst h
    simp at hl
    subst hl
    go_enter Try.func26, Try.ntmps26
    go_wp2_with fail
    refine bodyPost_ret (v := .tuple #[.agg #[.int .i64 0, .int .i64 0], .agg #[.int .i64 0, .int .i64 0], .bool false]) (by simp [results, Try.results26, go_sem]) rfl ⟨rfl, ?_⟩
    exact ((Below.refl _ _).alloc (Nat.le_refl _) _).alloc (by simp) _
  · by_cases h0 : n = 0
    · subst h0
      have := List.eq_nil_of_length_eq_zero hl
      subst this
      simp [rightAll] at h
    · have h0' : ((n : Int) == 0) = false := by simp [h0]
      have H := Lib.hid h
      clear h
      go_enter Try.func26, Try.ntmps26
      go_wp2_with fail
      refine (right_any _ _ _ l _ ((hr.alloc (Nat.le_refl _) _).alloc (by simp) _ |>.more (by simp <;> omega)) hl hn).mono ?_
      rintro e w1 ⟨rfl, hb1⟩
      rw [H.out]
      obtain ⟨kc, kf⟩ := bcell hb1
      have hz1 := hb1.size
      simp at hz1
      have q0 : w1.cell? ⟨w.heap.size, 0, none⟩ = some (.int .i64 0) := by go_simp
      have q1 : w1.cell? ⟨w.heap.size, 1, none⟩ = some (.int .i64 0) := by go_simp
      have q2 : w1.cell? ⟨w.heap.size + 1, 0, none⟩ = some (.int .i64 0) := by go_simp
      have q3 : w1.cell? ⟨w.heap.size + 1, 1, none⟩ = some (.int .i64 0) := by go_simp
      have f0 : w1.frozen? ⟨w.heap.size, 0, none⟩ = false := by go_simp
      have f1 : w1.frozen? ⟨w.heap.size, 1, none⟩ = false := by go_simp
      have f2 : w1.frozen? ⟨w.heap.size + 1, 0, none⟩ = false := by go_simp
      have f3 : w1.frozen? ⟨w.heap.size + 1, 1, none⟩ = false := by go_simp
      clear kc kf
      go_wp2_with fail
      refine bodyPost_ret (v := .tuple #[.agg #[.int .i64 0, .int .i64 0], .agg #[.int .i64 0, .int .i64 0], .bool false]) (by simp [results, Try.results26, go_sem, q0, q1, q2, q3]) rfl ⟨rfl, ?_⟩
      exact Below.setCell (Below.setCell (Below.setCell (Below.setCell (Below.trans (((Below.refl _ _).alloc (Nat.le_refl _) _).alloc (by simp) _) (hb1.mono (by simp <;> omega))) (by simp) _) (by simp) _) (by simp) _) (by simp) _

set_option maxHeartbeats 1000000 in
theorem box_some (A : Option Addr) (n c : Nat) (p : Pt) (l : List Pt) (w : World) (hr : Reads w w.heap.size 2 A n (ptC (p :: l))) (hl : (p :: l).length = n) (hn : n ≤ 9223372036854775807) (hy : rightAll (p :: l) = true) :
    Calls Try.prog 26 #[.slice A n c] w fun e w' => e = .returned (.tuple #[.agg #[.int .i64 (boxFold (p, p) (p :: l)).1.1, .int .i64 (boxFold (p, p) (p :: l)).1.2], .agg #[.int .i64 (boxFold (p, p) (p :: l)).2.1, .int .i64 (boxFold (p, p) (p :: l)).2.2], .bool true]) ∧ Below w.heap.size w w' := by
  have h0' : ((n : Int) == 0) = false := by simp at hl ⊢; omega
  have H := Lib.hid hy
  clear hy
  obtain ⟨b, off, rfl, hbb, hcells⟩ := hr.pt hl (by simp at hl; omega)
  obtain ⟨c0, c1⟩ := hcells 0 (by simp at hl; omega)
  go_enter Try.func26, Try.ntmps26
  go_wp2_with fail
  refine (right_any _ _ _ (p :: l) _ ((hr.alloc (Nat.le_refl _) _).alloc (by simp) _ |>.more (by simp <;> omega)) hl hn).mono ?_
  rintro e w1 ⟨rfl, hb1⟩
  rw [H.out]
  obtain ⟨kc, kf⟩ := bcell hb1
  have hz1 := hb1.size
  simp at hz1
  have q0 : w1.cell? ⟨w.heap.size, 0, none⟩ = some (.int .i64 0) := by go_simp
  have q1 : w1.cell? ⟨w.heap.size, 1, none⟩ = some (.int .i64 0) := by go_simp
  have q2 : w1.cell? ⟨w.heap.size + 1, 0, none⟩ = some (.int .i64 0) := by go_simp
  have q3 : w1.cell? ⟨w.heap.size + 1, 1, none⟩ = some (.int .i64 0) := by go_simp
  have f0 : w1.frozen? ⟨w.heap.size, 0, none⟩ = false := by go_simp
  have f1 : w1.frozen? ⟨w.heap.size, 1, none⟩ = false := by go_simp
  have f2 : w1.frozen? ⟨w.heap.size + 1, 0, none⟩ = false := by go_simp
  have f3 : w1.frozen? ⟨w.heap.size + 1, 1, none⟩ = false := by go_simp
  have d0 : w1.cell? ⟨b, off, none⟩ = some (.int .i64 p.1) := by
    have := ((hb1.cell (p := ⟨b, off + 0 * 2, none⟩) (by simp; omega)).trans (World.cell?_alloc_lt _ _ _ (by simp; omega))).trans ((World.cell?_alloc_lt _ _ _ (by simp; omega)).trans c0)
    simpa using this
  have d1 : w1.cell? ⟨b, off + 1, none⟩ = some (.int .i64 p.2) := by
    have := ((hb1.cell (p := ⟨b, off + 0 * 2 + 1, none⟩) (by simp; omega)).trans (World.cell?_alloc_lt _ _ _ (by simp; omega))).trans ((World.cell?_alloc_lt _ _ _ (by simp; omega)).trans c1)
    simpa using this
  have hn1 : (0 : Int) < (n : Int) := by simp at hl; omega
  have hb1' : b < w1.heap.size := by omega
  have hb2 : b < w1.heap.size + 1 := by omega
  clear c0 c1 kc kf
  go_upto_region 3 with fail
  go_cut [5, 6] (fun s5 s6 wx => ∃ g5 g6 : Nat, s5 = .pointer (some ⟨g5, 0, none⟩) ∧ s6 = .pointer (some ⟨g6, 0, none⟩) ∧ g5 ≠ g6 ∧ w1.heap.size ≤ g5 ∧ w1.heap.size ≤ g6 ∧ Blk wx g5 29 #[.int .i64 p.1, .int .i64 p.2] ∧ Blk wx g6 29 #[.int .i64 p.1, .int .i64 p.2] ∧ Below w1.heap.size w1 wx)
  case first =>
    go_region
    · go_wp2_with fail
      go_meet
      exact ⟨_, _, rfl, rfl, by omega, Nat.le_refl _, by omega, (Blk.new w1 _ _).alloc _, (Blk.new' (by simp)).drew, (((Below.refl _ _).alloc (Nat.le_refl _) _).alloc (by simp) _).drew⟩
    · go_wp2_with fail
      go_meet
      exact ⟨_, _, rfl, rfl, by omega, by omega, Nat.le_refl _, (Blk.new' (by simp)).drew, (Blk.new w1 _ _).alloc _, (((Below.refl _ _).alloc (Nat.le_refl _) _).alloc (by simp) _).drew⟩
  case rest =>
    obtain ⟨g5, g6, rfl, rfl, h56, hg5, hg6, B5, B6, hbc⟩ := hcut
    have hb0 : Below w.heap.size w w1 := Below.trans (((Below.refl _ _).alloc (Nat.le_refl _) _).alloc (by simp) _) (hb1.mono (by simp <;> omega))
    have hrg := fun wr h => hr.below (w' := wr) (hb0.trans h)
    have HRG := Lib.hid hrg
    have HFold := fun (k : Nat) (hk : k < (p :: l).length) (x : Pt × Pt) => show boxFold x ((p :: l).drop k) = boxFold ((min x.1.1 (p :: l)[k].1, min x.1.2 (p :: l)[k].2), (max x.2.1 (p :: l)[k].1, max x.2.2 (p :: l)[k].2)) ((p :: l).drop (k + 1)) by rw [List.drop_eq_getElem_cons hk, boxFold]
    have HB := Lib.hid HFold
    have HC := Lib.hid hl
    clear hrg HFold hr hcells hl
    go_wp2_with fail
    go_loopg [27] n (fun m i wr => ∃ (k : Nat) (lo hi : Pt), k + m = n ∧ i = .int .i64 k ∧ boxFold (p, p) (p :: l) = boxFold (lo, hi) ((p :: l).drop k) ∧ Blk wr g5 29 #[.int .i64 lo.1, .int .i64 lo.2] ∧ Blk wr g6 29 #[.int .i64 hi.1, .int .i64 hi.2] ∧ Below w1.heap.size w1 wr)
    case atStart => exact ⟨0, p, p, by omega, rfl, rfl, B5, B6, hbc⟩
    case round =>
      obtain ⟨k, lo, hi, hkm, rfl, hfold, b5, b6, hbw⟩ := hrel
      have HF := Lib.hid hfold
      have HM := Lib.hid hkm
      clear hfold
      by_cases hlt : k < n
      · obtain ⟨b', off', e, hbb', hcells⟩ := (HRG.out wr (hbw.mono hb0.size)).pt HC.out (by omega)
        injection e with e
        injection e with e1 e2
        subst e1 e2
        obtain ⟨c0, c1⟩ := hcells k hlt
        clear hcells
        have hk' : k < (p :: l).length := by rw [HC.out]; exact hlt
        have hBk := HB.out k hk' (lo, hi)
        generalize (p :: l)[k]'hk' = q at *
        have HBk := Lib.hid hBk
        clear hkm hBk hk'
        have hs := hbw.size
        have n5 : wr.heap.size ≠ g5 := by have := b5.lt; omega
        have n6 : wr.heap.size ≠ g6 := by have := b6.lt; omega
        obtain ⟨hmin, hmax⟩ := mins Try.prog
        go_upto_region 7 with fail
        go_cut [] (fun wx => Blk wx g5 29 #[.int .i64 (imin lo.1 q.1), .int .i64 (imin lo.2 q.2)] ∧ Blk wx g6 29 #[.int .i64 hi.1, .int .i64 hi.2] ∧ Blk wx wr.heap.size 29 #[.int .i64 q.1, .int .i64 q.2] ∧ Below w1.heap.size w1 wx)
        case first =>
          obtain ⟨r0, r1, t0, t1⟩ := (b5.alloc (.cells #[.int .i64 q.1, .int .i64 q.2] 29)).pt
          obtain ⟨r2, r3, _, _⟩ := (Blk.new wr 29 #[.int .i64 q.1, .int .i64 q.2]).pt
          go_region
          go_wp2_with fail
          go_meet
          exact ⟨((b5.alloc _).setPt _ _).drew, (((b6.alloc _).far (p := ⟨g5, 0, none⟩) (Ne.symm h56) _).far (p := ⟨g5, 1, none⟩) (Ne.symm h56) _).drew, (((Blk.new wr _ _).far (p := ⟨g5, 0, none⟩) n5 _).far (p := ⟨g5, 1, none⟩) n5 _).drew, (((hbw.alloc hs _).setCell hg5 _).setCell hg5 _).drew⟩
        case rest =>
          obtain ⟨b5, b6, b8, hbx⟩ := hcut
          go_upto_region 8 with fail
          obtain ⟨r0, r1, t0, t1⟩ := b6.pt
          obtain ⟨r2, r3, _, _⟩ := b8.pt
          go_region
          go_wp2_with fail
          have hkm := HM.out
          go_roundg (gk - 1)
          case measure => omega
          case rel => exact ⟨k + 1, (imin lo.1 q.1, imin lo.2 q.2), (imax hi.1 q.1, imax hi.2 q.2), by omega, by go_num, by rw [HF.out, HBk.out]; simp only [imin_eq, imax_eq], ((b5.far (p := ⟨g6, 0, none⟩) h56 _).far (p := ⟨g6, 1, none⟩) h56 _).drew, (b6.setPt _ _).drew, ((hbx.setCell hg6 _).setCell hg6 _).drew⟩
      · have hk' : boxFold (p, p) (p :: l) = (lo, hi) := by rw [HF.out, List.drop_of_length_le (by rw [HC.out]; omega), boxFold]
        have HK := Lib.hid hk'
        obtain ⟨r0, r1, t0, t1⟩ := b5.pt
        obtain ⟨r2, r3, t2, t3⟩ := b6.pt
        obtain ⟨kc, kf⟩ := bcell hbw
        have e0 : wr.cell? ⟨w.heap.size, 0, none⟩ = some (.int .i64 0) := (hbw.cell (p := ⟨w.heap.size, 0, none⟩) (by simp; omega)).trans q0
        have e1 : wr.cell? ⟨w.heap.size, 1, none⟩ = some (.int .i64 0) := (hbw.cell (p := ⟨w.heap.size, 1, none⟩) (by simp; omega)).trans q1
        have e2 : wr.cell? ⟨w.heap.size + 1, 0, none⟩ = some (.int .i64 0) := (hbw.cell (p := ⟨w.heap.size + 1, 0, none⟩) (by simp; omega)).trans q2
        have e3 : wr.cell? ⟨w.heap.size + 1, 1, none⟩ = some (.int .i64 0) := (hbw.cell (p := ⟨w.heap.size + 1, 1, none⟩) (by simp; omega)).trans q3
        have g0 : wr.frozen? ⟨w.heap.size, 0, none⟩ = false := (hbw.frozen (p := ⟨w.heap.size, 0, none⟩) (by simp; omega)).trans f0
        have g1 : wr.frozen? ⟨w.heap.size, 1, none⟩ = false := (hbw.frozen (p := ⟨w.heap.size, 1, none⟩) (by simp; omega)).trans f1
        have g2 : wr.frozen? ⟨w.heap.size + 1, 0, none⟩ = false := (hbw.frozen (p := ⟨w.heap.size + 1, 0, none⟩) (by simp; omega)).trans f2
        have g3 : wr.frozen? ⟨w.heap.size + 1, 1, none⟩ = false := (hbw.frozen (p := ⟨w.heap.size + 1, 1, none⟩) (by simp; omega)).trans f3
        have m1 : w.heap.size ≠ g5 := by omega
        have m2 : w.heap.size + 1 ≠ g5 := by omega
        have m3 : w.heap.size ≠ g6 := by omega
        have m4 : w.heap.size + 1 ≠ g6 := by omega
        clear kc kf hkm
        go_wp2_with fail
        go_region
        go_wp2_with fail
        refine bodyPost_ret (v := .tuple #[.agg #[.int .i64 lo.1, .int .i64 lo.2], .agg #[.int .i64 hi.1, .int .i64 hi.2], .bool true]) (by simp [results, Try.results26, go_sem, e0, e1, e2, e3]) rfl ⟨by rw [HK.out], ?_⟩
        exact ((((hb0.trans (hbw.mono hb0.size)).setCell (by simp) _).setCell (by simp) _).setCell (by simp) _).setCell (by simp) _ |>.drew
end Go.Proofs.Ytefhfbefgeadaaa
