/-
  Contract of graticulelaw01.Ofs: points, as the document's: a row of the call's own with the same cells. And words for rows of the call's own.
-/
import Derived.Test.YtefhfbefgeadaaaRef2
import Derived.Maps.AppendAt
namespace Go.Proofs.Ytefhfbefgeadaaa
open Go.RowKit

theorem own_below {w w' : World} {base : Nat} {e : TypeId} {size n : Nat} {v : Value} {xs : List Value} (h : w.ownsRow base e size v n xs) (hb : Below w.heap.size w w') : w'.ownsRow base e size v n xs := by
  obtain ⟨hl, h | ⟨g, cap, cur, hv, hB, hg, h1, h2, h3, h4⟩⟩ := h
  · exact ⟨hl, .inl h⟩
  · have hlt : g < w.heap.size := by
      rcases Nat.lt_or_ge g w.heap.size with h | h
      · exact h
      · rw [Array.getElem?_eq_none h] at hg; cases hg
    exact ⟨hl, .inr ⟨g, cap, cur, hv, hB, (hb.block g hlt).trans hg, h1, h2, h3, h4⟩⟩
theorem own_slice {w : World} {base : Nat} {e : TypeId} {size n : Nat} {v : Value} {xs : List Value} (h : w.ownsRow base e size v n xs) :
    ∃ A c, v = .slice A n c ∧ n ≤ c ∧ c ≤ maxLen ∧ Reads w w.heap.size size A n xs := by
  have hk := h
  obtain ⟨hl, ⟨rfl, rfl⟩ | ⟨g, cap, cur, rfl, hB, hg, h1, h2, h3, h4⟩⟩ := h
  · exact ⟨none, 0, rfl, Nat.le_refl _, Nat.zero_le _, Reads.of_own hk⟩
  · exact ⟨some ⟨g, 0, none⟩, cap, rfl, h1, h2, Reads.of_own hk⟩
theorem own_empty (w : World) (base : Nat) (e : TypeId) (size : Nat) : w.ownsRow base e size (.slice none 0 0) 0 [] := ⟨by simp, .inl ⟨rfl, rfl⟩⟩
theorem own_block_ge {w : World} {base : Nat} {e : TypeId} {size n : Nat} {v : Value} {xs : List Value} (h : w.ownsRow base e size v n xs) : ∀ k, v.ownBlock = some k → base ≤ k := by
  obtain ⟨hl, ⟨rfl, rfl⟩ | ⟨g, cap, cur, rfl, hB, hg, h1, h2, h3, h4⟩⟩ := h
  · intro k hk; simp [Value.ownBlock] at hk
  · intro k hk; simp [Value.ownBlock] at hk; omega

theorem ptC_one (p : Pt) : ptC [p] = [.int .i64 p.1, .int .i64 p.2] := rfl
theorem ptC_snoc (l : List Pt) (k : Nat) (h : k < l.length) : ptC (l.take (k + 1)) = ptC (l.take k) ++ [.int .i64 l[k].1, .int .i64 l[k].2] := by
  rw [List.take_succ_eq_append_getElem h, ptC_append]; rfl
theorem news2 (w : World) (x y : Value) (t : TypeId) : ∀ j u, [x, y][j]? = some u → (w.alloc (.cells #[x, y] t)).cell? ((⟨w.heap.size, 0, none⟩ : Addr).add j) = some u := by
  intro j u h
  have hc := fun i => (Blk.new w t #[x, y]).cell i
  match j, h with
  | 0, h => rw [show (⟨w.heap.size, 0, none⟩ : Addr).add 0 = ⟨w.heap.size, 0, none⟩ from rfl, hc]; exact h
  | 1, h => rw [show (⟨w.heap.size, 0, none⟩ : Addr).add 1 = ⟨w.heap.size, 1, none⟩ from rfl, hc]; exact h
  | j + 2, h => simp at h

theorem infoP : (Try.prog.info? 30).map (fun i => (i.zero, i.size, i.bytes)) = some (some (.agg #[.int .i64 0, .int .i64 0]), 2, 16) := by kernel_rfl

set_option maxHeartbeats 2000000 in
theorem ofs_any (A : Option Addr) (n c : Nat) (l : List Pt) (w : World) (hr : Reads w w.heap.size 2 A n (ptC l)) (hl : l.length = n) (hn : n ≤ 1000000) :
    Calls Try.prog 27 #[.slice A n c] w fun e w' => ∃ v, e = .returned v ∧ w'.ownsRow w.heap.size 30 2 v n (ptC l) ∧ Below w.heap.size w w' := by
  obtain ⟨i0, hi, hz0, hz1, hz2⟩ := info_parts infoP
  go_enter Try.func27, Try.ntmps27
  go_wp2
  go_loopw [3, 4] (fun v i wr => ∃ k : Nat, k ≤ n ∧ i = .int .i64 k ∧ wr.ownsRow w.heap.size 30 2 v k (ptC (l.take k)) ∧ Below w.heap.size w wr) (fun _ i _ => n - (intOf i).toNat)
  case atStart => exact ⟨0, Nat.zero_le _, rfl, by simpa [ptC] using own_empty w _ _ _, Below.refl _ _⟩
  case round =>
    obtain ⟨k, hk, rfl, hown, hb⟩ := hrel
    by_cases hlt : k < n
    · obtain ⟨b, off, rfl, hbb, hc⟩ := (hr.below hb).pt hl (by omega)
      obtain ⟨c0, c1⟩ := hc k hlt
      have HS := Lib.hid (ptC_snoc l k (by omega))
      have HO := Lib.hid hown
      clear hc hown
      go_wp2_with fail
      refine (of_any _ _ _).mono ?_
      rintro e w1 ⟨rfl, hb1⟩
      have hz := hb1.size
      have hzb := hb.size
      have hown1 := own_below HO.out hb1
      go_wp2_with (at_builtin; refine wpList_append_own _ rfl (.tmp 11) (.tmp 17) 36 rfl w.heap.size 30 i0 (.agg #[.int .i64 0, .int .i64 0]) 2 16 Try.underlying36 hi hz0 hz1 hz2 rfl (by decide) _ k _ rfl (hown1.alloc _) ⟨w1.heap.size, 0, none⟩ 1 1 [.int .i64 l[k].1, .int .i64 l[k].2] rfl rfl ?c1 ?c2 ?c3 ?c4 ?c5 ?_; rotate_left 5; intro v2 w2 hown2 hg2 _)
      case c1 => exact news2 _ _ _ _
      case c2 => simp [Value.oneCell']
      case c3 => unfold maxLen; omega
      case c4 => omega
      case c5 => simp; omega
      have hb2 : Below w.heap.size w w2 := (((hb.trans (hb1.mono hzb)).alloc (by omega) _).grown hg2 (by simp; omega) (own_block_ge hown1))
      have HX := Lib.hid (HS.out ▸ hown2)
      clear hown2
      go_roundw
      case rel => exact ⟨k + 1, by omega, by go_num, HX.out, hb2⟩
      case measure => simp [intOf]; omega
    · have hkn : k = n := by omega
      have HO := Lib.hid hown
      have HK := Lib.hid hkn
      clear hown hkn
      go_wp2
      go_ret
      refine ⟨_, rfl, ?_, hb⟩
      have := HO.out
      rw [HK.out, List.take_of_length_le (by omega)] at this
      exact this
end Go.Proofs.Ytefhfbefgeadaaa
