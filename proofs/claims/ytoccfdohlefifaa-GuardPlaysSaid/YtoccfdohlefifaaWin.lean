import Derived.Test.YtoccfdohlefifaaIt
namespace Go.Proofs.Ytoccfdohlefifaa
open Go.RowKit
section
variable {P : Program} {α : Type} {R : Rep α} {T : List Nat} {own : Own} {a : Act} {w : World} {d lab lab2 : Nat} {L : List Nat} {x y : Operand} {t ty t2 e : TypeId} {pos : String} {after : Array Edge} {guard : Option (Nat × Bool)} {A : Option Addr} {c : Nat} {l : List α}
abbrev pieceV (A : Option Addr) (c : Nat) (s : Nat) (pa pb : Int) : Value := .slice (if (c : Int).toNat = pa.toNat then A else A.map (·.add (pa.toNat * s))) (pb.toNat - pa.toNat) ((c : Int).toNat - pa.toNat)
theorem Bnd.noneE {n m : Int} (h : n = m) : Bnd a none n m := h
theorem or_pieceW {lo hi : Option Operand} {bl bh : Int} {l' : List α} (hu : P.underlying t = some (.slice e)) (hs : TSize P e R.s) (hx : a.eval x = .slice A l.length c) (hl : Bnd a lo bl 0) (hh : Bnd a hi bh l.length) (h : RdO own L w R A c l) (hc : cut l bl bh = some l') :
    OpR P ⟨some d, .slice t x lo hi none, ty, pos, after, guard⟩ a w (Post T own a w (Fct.val d (pieceV A c R.s bl bh)) (some d)) := by
  obtain ⟨h1, h2, h3, _, _⟩ := cut_some hc
  have hlc := h.1
  exact or_val (o := ⟨some d, .slice t x lo hi none, ty, pos, after, guard⟩) rfl (or_slice_val (e := e) (mx := none) (bm := c) hu hs hx hl hh Bnd.none_ h1 h2 (by omega) (Int.le_refl _) hlc (by simp))
theorem or_indexW {i pa pb q : Int} {kd : IntKind} (hT : TSlice P t R.s) (hx : a.eval x = pieceV A c R.s pa pb) (hy : a.eval y = .int kd i) (hA : A = some (adr A)) (h0 : 0 ≤ pa) (hc : pb ≤ c) (hq : wn pa pb i = some q) :
    OpR P ⟨some d, .indexAddr t x y, ty, pos, after, guard⟩ a w (Post T own a w (Fct.val d (.pointer (some ((adr A).add (q.toNat * R.s))))) (some d)) :=
  or_val (o := ⟨some d, .indexAddr t x y, ty, pos, after, guard⟩) rfl (by
    obtain ⟨e, he, hs⟩ := hT
    obtain ⟨i0, i1, rfl⟩ := wn_some hq
    obtain ⟨j, rfl⟩ : ∃ j : Nat, i = j := ⟨i.toNat, by omega⟩
    obtain ⟨k, rfl⟩ : ∃ k : Nat, pa = k := ⟨pa.toNat, by omega⟩
    obtain ⟨m, rfl⟩ : ∃ m : Nat, pb = m := ⟨pb.toNat, by omega⟩
    have hne : ¬ c = k := by omega
    have hlt : j < m - k := by omega
    simp only [execOp, hx, hy, pieceV, Int.toNat_natCast]
    rw [if_neg hne, hA]
    have e2 : ((k : Int) + (j : Int)).toNat * R.s = k * R.s + j * R.s := by
      rw [show ((k : Int) + (j : Int)).toNat = k + j by omega, Nat.add_mul]
    rw [e2, ← add_add]
    simp [Sem.run_bind, Instr.indexAt, asIntOf, run_underlying he, hs w, hlt, adr])
theorem or_lenW {pa pb r : Int} (hu : P.underlying t = some (.slice e)) (hx : a.eval x = pieceV A c R.s pa pb) (h0 : 0 ≤ pa) (h1 : pa ≤ pb) (hr : pb - pa = r) :
    OpR P ⟨some d, .call ⟨.builtin .len, #[x], #[t]⟩, ty, pos, after, guard⟩ a w (Post T own a w (Fct.val d (.int .i64 r)) (some d)) :=
  or_len (n := pb.toNat - pa.toNat) hu hx (by omega)
theorem range_cells (z : Array Value) (hz : 0 < z.size) : ∀ n : Nat, ((List.range (n * z.size)).map fun i => z[i % z.size]!) = (List.replicate n z.toList).flatten
  | 0 => by simp
  | n + 1 => by
    rw [Nat.add_mul, Nat.one_mul, Nat.add_comm, List.range_add, List.map_append, List.replicate_succ, List.flatten_cons, ← range_cells z hz n, List.map_map]
    congr 1
    · refine List.ext_getElem (by simp) fun i h1 h2 => ?_
      have hi : i < z.size := by simpa using h1
      simp [Nat.mod_eq_of_lt hi, hi]
    · refine List.map_congr_left fun i _ => ?_
      show z[(z.size + i) % z.size]! = _
      rw [Nat.add_mod_left]
theorem RepL.rep {w : World} {S : Nat → Prop} {cs : List Value} {x : α} (h : R.ok w S cs x) : ∀ n : Nat, RepL R w S (List.replicate n cs).flatten (List.replicate n x)
  | 0 => rfl
  | n + 1 => by
    have hl := R.len h
    rw [List.replicate_succ, List.flatten_cons, List.replicate_succ]
    refine ⟨by rw [List.take_append_of_le_length (by omega), List.take_of_length_le (by omega)]; exact h, ?_⟩
    rw [List.drop_append_of_le_length (by omega), List.drop_eq_nil_of_le (by omega), List.nil_append]
    exact RepL.rep h n
theorem or_clear {pa pb : Int} {r : List α} {z : Value} {dv : α} {f : Fct} {dst : Option Tmp} (hu : P.underlying t = some (.slice e)) (hz : (P.info? e).map (·.zero) = some (some z)) (hzs : z.cells.size = R.s) (hx : a.eval x = pieceV A c R.s pa pb) (ho : RwO own lab L w e R A c l) (hc : clr l pa pb dv = some r) (hR : R.Flat)
    (hd : ∀ w S, R.ok w S z.cells.toList dv) (hTl : lab ∈ T) (h0 : lab ≠ 0)
    (hf : ∀ (own' : Own) (a' : Act) (w' : World), RwO own' lab2 L w' e R A c r → f.p own' a' w') :
    OpR P ⟨dst, .call ⟨.builtin .clear, #[x], #[t]⟩, ty, pos, after, guard⟩ a w (Post T own a w f dst) := by
  obtain ⟨b1, b2, b3, rfl⟩ := clr_some hc
  obtain ⟨i, hi, hiz⟩ : ∃ i, P.info? e = some i ∧ i.zero = some z := by
    cases hi : P.info? e with
    | none => rw [hi] at hz; cases hz
    | some i => rw [hi] at hz; simp at hz; exact ⟨i, rfl, hz⟩
  have hzv : (zeroValue e).run P w = .ok z w := by simp [zeroValue, typeInfo, hi, hiz]
  unfold OpR Oper.wp
  by_cases hn : pa = pb
  · -- nothing to clear
    subst hn
    have hr' : (execOp a.eval ⟨dst, .call ⟨.builtin .clear, #[x], #[t]⟩, ty, pos, after, guard⟩).run P w = .ok (.value (.tuple #[])) w := by
      simp only [execOp, resolve, invoke, builtin, List.map_toArray, List.map_cons, List.map_nil, hx, pieceV, Nat.sub_self]
      have : ∀ (A' : Option Addr) (c' : Nat), (Builtin.clear_ #[t] ty #[.slice A' 0 c']).run P w = .ok (.tuple #[]) w := fun A' c' => by
        cases A' <;> simp [Builtin.clear_, run_underlying hu]
      simp only [Sem.run_bind, this, Result.andThen_ok, Sem.run_pure]
    rw [hr']
    refine ⟨_, rfl, mvOwn w T lab2 own, Evo.mv T lab2 own rfl rfl rfl (Nat.le_refl _) fun _ _ _ => rfl, fun a' _ => hf _ a' _ ?_⟩
    have e1 : l.take pa.toNat ++ List.replicate (pa.toNat - pa.toNat) dv ++ l.drop pa.toNat = l := by simp
    rw [e1]
    exact ho.mv hTl h0 (.inl hR)
  rcases ho with ⟨rfl, _⟩ | ⟨g, cur, rfl, h2, h3, h4, h5, h6, h7⟩
  · simp at b3; omega
  have hne : ¬ (c : Int).toNat = pa.toNat := by omega
  have hx : a.eval x = .slice (some ⟨g, pa.toNat * R.s, none⟩) (pb.toNat - pa.toNat) ((c : Int).toNat - pa.toNat) := by rw [hx, pieceV, if_neg hne]; show Value.slice (some ((⟨g, 0, none⟩ : Addr).add _)) _ _ = _; rw [zero_add_addr]
  generalize hnn : pb.toNat - pa.toNat = n at *
  have hn0 : 0 < n := by omega
  have hcs : (Builtin.zeroCells z.cells n).toList = (List.replicate n z.cells.toList).flatten := by
    rw [← range_cells z.cells (by rw [hzs]; exact R.pos) n]
    simp [Builtin.zeroCells]
  have hrep : ∀ (w : World) (S : Nat → Prop), RepL R w S (List.replicate n z.cells.toList).flatten (List.replicate n dv) := fun w S => RepL.rep (hd w S) n
  have k3 := hrep w (fun _ => False)
  have k3l : (List.replicate n z.cells.toList).flatten.length = n * R.s := by rw [k3.len]; simp
  have hsz : (pa.toNat + n) * R.s ≤ l.length * R.s := Nat.mul_le_mul_right _ (by omega)
  have hsz2 : l.length * R.s ≤ cur.size := by rw [h6]; exact Nat.mul_le_mul_right _ h4
  rw [Nat.add_mul] at hsz
  have hst := run_storeCells_at P g (pa.toNat * R.s) e (List.replicate n z.cells.toList).flatten 0 cur w h3 (by rw [k3l]; omega) k3.one
  rw [k3l, Nat.add_zero] at hst
  have hr' : (execOp a.eval ⟨dst, .call ⟨.builtin .clear, #[x], #[t]⟩, ty, pos, after, guard⟩).run P w = .ok (.value (.tuple #[])) (w.setRow g (cur.toList.take (pa.toNat * R.s) ++ (List.replicate n z.cells.toList).flatten ++ cur.toList.drop (pa.toNat * R.s + n * R.s)).toArray) := by
    simp only [execOp, resolve, invoke, builtin, List.map_toArray, List.map_cons, List.map_nil, hx]
    have : ∀ c', (Builtin.clear_ #[t] ty #[.slice (some ⟨g, pa.toNat * R.s, none⟩) n c']).run P w = .ok (.tuple #[]) (w.setRow g (cur.toList.take (pa.toNat * R.s) ++ (List.replicate n z.cells.toList).flatten ++ cur.toList.drop (pa.toNat * R.s + n * R.s)).toArray) := fun c' => by
      obtain ⟨n', rfl⟩ : ∃ n', n = n' + 1 := ⟨n - 1, by omega⟩
      simp [Builtin.clear_, run_underlying hu, hzv, hcs, hst, Sem.run_bind, Result.andThen]
    simp only [Sem.run_bind, this, Result.andThen_ok, Sem.run_pure]
  rw [hr']
  have hgr : w.grownBy (w.setRow g (cur.toList.take (pa.toNat * R.s) ++ (List.replicate n z.cells.toList).flatten ++ cur.toList.drop (pa.toNat * R.s + n * R.s)).toArray) (some g) := ⟨rfl, rfl, rfl, by simp, fun b _ hne => setRow_other w g b _ (fun e => hne (by rw [e]))⟩
  have hev := Evo.ofSet (own := own) (T := T) (k := lab2) (by rw [h2]; exact hTl) (by rw [h2]; exact h0) hgr
  have e2 : (cur.toList.take (pa.toNat * R.s)).length = pa.toNat * R.s := by rw [List.length_take, Array.length_toList]; omega
  refine ⟨_, rfl, mvOwn w T lab2 own, hev, fun a' _ => hf _ a' _ (.inr ⟨g, _, rfl, mvOwn_struck (by rw [h2]; exact hTl) (by rw [h2]; exact h0), setRow_heap w g cur _ e _ h3, ?_, h5, ?_, ?_⟩)⟩
  · simp only [List.length_append, List.length_take, List.length_drop, List.length_replicate]; omega
  · simp only [List.size_toArray, List.length_append, e2, k3l, List.length_drop, Array.length_toList]; omega
  · have hLn : (l.take pa.toNat ++ List.replicate n dv ++ l.drop pb.toNat).length = l.length := by
      simp only [List.length_append, List.length_take, List.length_drop, List.length_replicate]; omega
    rw [hLn, show pb.toNat = pa.toNat + n by omega]
    have hs1 := (((h7.take_ pa.toNat).flat hR (w.setRow g (cur.toList.take (pa.toNat * R.s) ++ (List.replicate n z.cells.toList).flatten ++ cur.toList.drop (pa.toNat * R.s + n * R.s)).toArray) (fun b => At (mvOwn w T lab2 own) L (w.setRow g (cur.toList.take (pa.toNat * R.s) ++ (List.replicate n z.cells.toList).flatten ++ cur.toList.drop (pa.toNat * R.s + n * R.s)).toArray) b ∧ b ≠ g)).append (k3.flat hR _ _)).append ((h7.drop_ (pa.toNat + n)).flat hR _ _)
    refine (congrArg (fun q => RepL R _ _ q _) ?_).mp hs1
    rw [Nat.add_mul, List.take_take, Nat.min_eq_left (by omega), List.drop_take]
    have e3 : (cur.toList.take (pa.toNat * R.s) ++ (List.replicate n z.cells.toList).flatten).length = pa.toNat * R.s + n * R.s := by rw [List.length_append, e2, k3l]
    show _ = (cur.toList.take (pa.toNat * R.s) ++ (List.replicate n z.cells.toList).flatten ++ cur.toList.drop (pa.toNat * R.s + n * R.s)).take (l.length * R.s)
    rw [List.take_append, List.take_of_length_le (l := cur.toList.take (pa.toNat * R.s) ++ (List.replicate n z.cells.toList).flatten) (by rw [e3]; exact hsz), e3]
theorem clr_len {pa pb : Int} {r : List α} {dv : α} (h : clr l pa pb dv = some r) : r.length = l.length := by
  obtain ⟨b1, b2, b3, rfl⟩ := clr_some h
  simp only [List.length_append, List.length_take, List.length_drop, List.length_replicate]; omega
end
end Go.Proofs.Ytoccfdohlefifaa
