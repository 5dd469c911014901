import Derived.Test.YtoccfdohlefifaaOwn
import Derived.Test.YtoccfdohlefifaaFl
import Derived.WalkSpells
import Derived.Laws.MakeOwn
import Derived.Laws.CopyRow
namespace Go.Proofs.Ytoccfdohlefifaa
open Go.RowKit
section
variable {P : Program} {α : Type} {R : Rep α} {T : List Nat} {own : Own} {a : Act} {w : World} {d lab : Nat} {L : List Nat} {x y : Operand} {t ty t2 e : TypeId} {pos : String} {after : Array Edge} {guard : Option (Nat × Bool)} {A : Option Addr} {c : Nat} {l : List α}
theorem RdO.nil_of (h : RdO own L w R A c l) (hA : A.isNone = true) : l = [] := by
  cases l with
  | nil => rfl
  | cons z l =>
    obtain ⟨_, _, _, h2⟩ := h
    obtain ⟨b, off, e, _⟩ := h2 (by simp)
    rw [e] at hA; cases hA
theorem or_eqlNil {n : Nat} (hT : P.underlying t = some (.slice e)) (hx : a.eval x = .slice A n c) (hy : a.eval y = .slice none 0 0) :
    OpR P ⟨some d, .binOp .eql t x y t2, ty, pos, after, guard⟩ a w (Post T own a w (Fct.val d (.bool A.isNone)) (some d)) :=
  or_val (o := ⟨some d, .binOp .eql t x y t2, ty, pos, after, guard⟩) rfl (by
    simp only [execOp, hx, hy]
    have h : (binOp .eql t (.slice A n c) (.slice none 0 0)).run P w = .ok (.bool A.isNone) w := by
      simp only [binOp]
      simp [Op.equal, Op.maxDepth, Lib.run_equalIn_slice_nil w 9999 t e A n c 0 0 hT]
    simp [Sem.run_bind, eqGuard, h])
theorem or_make {n : Int} {kl kc : IntKind} {r : List α} {bytes : Nat} (hT : TApp P t e R.s bytes) (hx : a.eval x = .int kl 0) (hy : a.eval y = .int kc n) (hr : mk0 α n = some r) (hb : bytes ≤ 140000) :
    OpR P ⟨some d, .makeSlice t x y, ty, pos, after, guard⟩ a w (Post T own a w (Fct.row lab [] d e R r) (some d)) := by
  obtain ⟨h0, h1, rfl⟩ := mk0_some hr
  obtain ⟨ht, i, z, hi, hz, hsz, hby, hzs, hpos⟩ := hT
  have h1' : n ≤ 1000000000 := h1
  have hbn : (i.bytes : Int) * n ≤ 281474976710656 := by
    have h2 : (i.bytes : Int) * n ≤ 140000 * 1000000000 := Int.mul_le_mul (by rw [hby]; omega) h1' h0 (by omega)
    omega
  have hrun := run_make (P := P) w t e i z ht hi hz kl kc 0 n (Int.le_refl _) h0 hbn (by omega)
  unfold OpR Oper.wp
  have hr' : (execOp a.eval ⟨some d, .makeSlice t x y, ty, pos, after, guard⟩).run P w = .ok (.value (.slice (some ⟨w.heap.size, 0, none⟩) 0 n.toNat)) (w.alloc (.cells (madeCells z.cells (n.toNat * i.size)) e)) := by
    simp only [execOp, hx, hy]
    simp [Sem.run_bind, hrun]
  rw [hr']
  refine ⟨_, rfl, mvOwn w T lab own, Evo.ofAlloc T lab own w _, fun a' ha => ⟨(some ⟨w.heap.size, 0, none⟩, n.toNat), ha.1 d rfl, .inr ⟨w.heap.size, _, rfl, mvOwn_new (Nat.le_refl _), Blk.new w e _, Nat.zero_le _, by simp only [maxLen]; omega, ?_, by simp [RepL]⟩⟩⟩
  simp [madeCells, hsz]
theorem run_copy_any {dT sT ty elem : TypeId} {size n : Nat} {g o dLen dCap : Nat} {a : Addr} {sLen sCap : Nat} {cur : Array Value} {t : TypeId} {cs : List Value}
    (hu : P.underlying dT = some (.slice elem)) (hs : (P.info? elem).map (·.size) = some size)
    (hg : w.heap[g]? = some (.cells cur t (0, 0))) (hnn : n = Nat.min sLen dLen) (hn : cs.length = n * size)
    (hsrc : ∀ j v, cs[j]? = some v → w.cell? (a.add j) = some v) (hfit : o + cs.length ≤ cur.size) (h1 : ∀ v ∈ cs, v.oneCell' = true) :
    (Builtin.copy_ #[dT, sT] ty #[.slice (some ⟨g, o, none⟩) dLen dCap, .slice (some a) sLen sCap]).run P w =
      .ok (goInt n) (w.setRow g (cur.toList.take o ++ cs ++ cur.toList.drop (o + cs.length)).toArray) := by
  have hl := run_loadCells_list (P := P) w a cs hsrc
  have hst := run_storeCells_at P g o t cs 0 cur w hg (by simpa using hfit) h1
  cases hq : P.info? elem with
  | none => simp [hq] at hs
  | some i =>
    have hi : i.size = size := by simpa [hq] using hs
    simp [Builtin.copy_, run_underlying hu, Builtin.lenOf, Builtin.firstCells, sizeOf, typeInfo, hq, hi, ← hnn, ← hn, hl, hst]
theorem or_piece {lo hi : Option Operand} {bl bh : Int} (hu : P.underlying t = some (.slice e)) (hs : TSize P e R.s) (hx : a.eval x = .slice A l.length c) (hl : Bnd a lo bl 0) (hh : Bnd a hi bh l.length) (h : RwO own lab L w e R A c l) (h1 : 0 ≤ bl) (h2 : bl ≤ bh) (h3 : bh ≤ l.length) :
    OpR P ⟨some d, .slice t x lo hi none, ty, pos, after, guard⟩ a w (Post T own a w (Fct.val d (.slice (if (c : Int).toNat = bl.toNat then A else A.map (·.add (bl.toNat * R.s))) (bh.toNat - bl.toNat) ((c : Int).toNat - bl.toNat))) (some d)) := by
  have hlc := h.lec
  exact or_val (o := ⟨some d, .slice t x lo hi none, ty, pos, after, guard⟩) rfl (or_slice_val (e := e) (mx := none) (bm := c) hu hs hx hl hh Bnd.none_ h1 h2 (by omega) (Int.le_refl _) hlc (by simp))
theorem or_copy {lab2 : Nat} {L2 : List Nat} {A2 : Option Addr} {c2 : Nat} {bl bh : Int} {m r : List α} {f : Fct} {dst : Option Tmp} (hu : P.underlying t = some (.slice e)) (hs : (P.info? e).map (·.size) = some R.s)
    (hx : a.eval x = .slice (if (c : Int).toNat = bl.toNat then A else A.map (·.add (bl.toNat * R.s))) (bh.toNat - bl.toNat) ((c : Int).toNat - bl.toNat)) (hy : a.eval y = .slice A2 m.length c2) (ho : RwO own lab L w e R A c l) (hr : RdO own L2 w R A2 c2 m) (hc : cpy l bl bh m = some r) (hR : R.Flat) (hTl : lab ∈ T) (h0 : lab ≠ 0)
    (hf : ∀ (own' : Own) (a' : Act) (w' : World), RwO own' lab2 L w' e R A c r → f.p own' a' w') :
    OpR P ⟨dst, .call ⟨.builtin .copy, #[x, y], #[t, t2]⟩, ty, pos, after, guard⟩ a w (Post T own a w f dst) := by
  obtain ⟨⟨b1, b2, b3, b4⟩, rfl⟩ := cpy_some hc
  rcases ho with ⟨rfl, _⟩ | ⟨g, cur, rfl, h2, h3, h4, h5, h6, h7⟩
  · simp at b3; omega
  obtain ⟨cs, k1, k2⟩ := hr.2
  obtain ⟨b, off, rfl, hb, hcell⟩ := k2 b4
  have hne : ¬ (c : Int).toNat = bl.toNat := by omega
  rw [if_neg hne] at hx
  have hx : a.eval x = .slice (some ⟨g, bl.toNat * R.s, none⟩) (bh.toNat - bl.toNat) ((c : Int).toNat - bl.toNat) := by rw [hx]; show Value.slice (some ((⟨g, 0, none⟩ : Addr).add _)) _ _ = _; rw [zero_add_addr]
  have k3 := k1.take_ (min m.length (bh.toNat - bl.toNat))
  have k3l : (cs.take (min m.length (bh.toNat - bl.toNat) * R.s)).length = min m.length (bh.toNat - bl.toNat) * R.s := by
    rw [k3.len, List.length_take, Nat.min_eq_left (Nat.min_le_left _ _)]
  have hml : m.take (min m.length (bh.toNat - bl.toNat)) = m.take (bh.toNat - bl.toNat) := by
    by_cases hk : m.length ≤ bh.toNat - bl.toNat
    · rw [Nat.min_eq_left hk, List.take_length, List.take_of_length_le hk]
    · rw [Nat.min_eq_right (by omega)]
  have hsz : (bl.toNat + min m.length (bh.toNat - bl.toNat)) * R.s ≤ l.length * R.s := Nat.mul_le_mul_right _ (by omega)
  have hsz2 : l.length * R.s ≤ cur.size := by rw [h6]; exact Nat.mul_le_mul_right _ h4
  rw [Nat.add_mul] at hsz
  have hrun := run_copy_any (P := P) (w := w) (ty := ty) (sT := t2) (dLen := bh.toNat - bl.toNat) (dCap := (c : Int).toNat - bl.toNat) (sLen := m.length) (sCap := c2) (a := ⟨b, off, none⟩) (o := bl.toNat * R.s) (n := min m.length (bh.toNat - bl.toNat)) hu hs h3 rfl k3l (fun j v hv => by
    have e1 : (⟨b, off, none⟩ : Addr).add j = ⟨b, off + j, none⟩ := by unfold Addr.add; split <;> simp_all
    rw [e1]
    refine hcell j v ?_
    rw [List.getElem?_take] at hv
    split at hv
    · exact hv
    · cases hv) (by rw [k3l]; omega) k3.one
  rw [k3l] at hrun
  unfold OpR Oper.wp
  have hr' : (execOp a.eval ⟨dst, .call ⟨.builtin .copy, #[x, y], #[t, t2]⟩, ty, pos, after, guard⟩).run P w = .ok (.value (goInt ((min m.length (bh.toNat - bl.toNat) : Nat) : Int))) (w.setRow g (cur.toList.take (bl.toNat * R.s) ++ cs.take (min m.length (bh.toNat - bl.toNat) * R.s) ++ cur.toList.drop (bl.toNat * R.s + min m.length (bh.toNat - bl.toNat) * R.s)).toArray) := by
    simp only [execOp, resolve, invoke, builtin, List.map_toArray, List.map_cons, List.map_nil, hx, hy]
    simp only [Sem.run_bind, Sem.run_pure, Result.andThen_ok, hrun]
  rw [hr']
  have hgr : w.grownBy (w.setRow g (cur.toList.take (bl.toNat * R.s) ++ cs.take (min m.length (bh.toNat - bl.toNat) * R.s) ++ cur.toList.drop (bl.toNat * R.s + min m.length (bh.toNat - bl.toNat) * R.s)).toArray) (some g) := ⟨rfl, rfl, rfl, by simp, fun b _ hne => setRow_other w g b _ (fun e => hne (by rw [e]))⟩
  have hev := Evo.ofSet (own := own) (T := T) (k := lab2) (by rw [h2]; exact hTl) (by rw [h2]; exact h0) hgr
  have e2 : (cur.toList.take (bl.toNat * R.s)).length = bl.toNat * R.s := by rw [List.length_take, Array.length_toList]; omega
  refine ⟨_, rfl, mvOwn w T lab2 own, hev, fun a' _ => hf _ a' _ (.inr ⟨g, _, rfl, mvOwn_struck (by rw [h2]; exact hTl) (by rw [h2]; exact h0), setRow_heap w g cur _ e _ h3, ?_, h5, ?_, ?_⟩)⟩
  · simp only [List.length_append, List.length_take, List.length_drop]; omega
  · simp only [List.size_toArray, List.length_append, e2, k3l, List.length_drop, Array.length_toList]; omega
  · have hLn : (l.take bl.toNat ++ m.take (bh.toNat - bl.toNat) ++ l.drop (bl.toNat + min m.length (bh.toNat - bl.toNat))).length = l.length := by
      simp only [List.length_append, List.length_take, List.length_drop]; omega
    rw [hLn, ← hml]
    generalize min m.length (bh.toNat - bl.toNat) = n at *
    have hs1 := (((h7.take_ bl.toNat).flat hR (w.setRow g (cur.toList.take (bl.toNat * R.s) ++ cs.take (n * R.s) ++ cur.toList.drop (bl.toNat * R.s + n * R.s)).toArray) (fun b => At (mvOwn w T lab2 own) L (w.setRow g (cur.toList.take (bl.toNat * R.s) ++ cs.take (n * R.s) ++ cur.toList.drop (bl.toNat * R.s + n * R.s)).toArray) b ∧ b ≠ g)).append (k3.flat hR _ _)).append ((h7.drop_ (bl.toNat + n)).flat hR _ _)
    refine (congrArg (fun q => RepL R _ _ q _) ?_).mp hs1
    rw [Nat.add_mul, List.take_take, Nat.min_eq_left (by omega), List.drop_take]
    have e3 : (cur.toList.take (bl.toNat * R.s) ++ cs.take (n * R.s)).length = bl.toNat * R.s + n * R.s := by rw [List.length_append, e2, k3l]
    show _ = (cur.toList.take (bl.toNat * R.s) ++ cs.take (n * R.s) ++ cur.toList.drop (bl.toNat * R.s + n * R.s)).take (l.length * R.s)
    rw [List.take_append, List.take_of_length_le (l := cur.toList.take (bl.toNat * R.s) ++ cs.take (n * R.s)) (by rw [e3]; exact hsz), e3]
theorem cpy_len {bl bh : Int} {m r : List α} (h : cpy l bl bh m = some r) : r.length = l.length := by
  obtain ⟨⟨b1, b2, b3, b4⟩, rfl⟩ := cpy_some h
  simp only [List.length_append, List.length_take, List.length_drop]; omega
end
section
variable {P : Program} {T : List Nat} {own : Own} {a : Act} {w : World} {d : Nat} {x y : Operand} {ty yt yt2 : TypeId} {pos : String} {after : Array Edge} {guard : Option (Nat × Bool)} {m n r : Int} {kd : IntKind}
end
end Go.Proofs.Ytoccfdohlefifaa
