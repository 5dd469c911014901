import Derived.Test.YtnmkonlfnpcoiaaRow
namespace Go.Proofs.Ytnmkonlfnpcoiaa
open Go.RowKit
def TApp (P : Program) (t e : TypeId) (size bytes : Nat) : Prop := P.underlying t = some (.slice e) ∧ ∃ i z, P.info? e = some i ∧ i.zero = some z ∧ i.size = size ∧ i.bytes = bytes ∧ z.cells.size = size ∧ 0 < size
theorem tapp_of {P : Program} {t e : TypeId} {size bytes : Nat} {z : Value} (hu : P.underlying t = some (.slice e)) (h : (P.info? e).map (fun i => (i.zero, i.size, i.bytes)) = some (some z, size, bytes)) (hz : z.cells.size = size) (h0 : 0 < size) : TApp P t e size bytes := by
  obtain ⟨i, h1, h2, h3, h4⟩ := info_parts h
  exact ⟨hu, i, z, h1, h2, h3, h4, hz, h0⟩
section
variable {P : Program} {α : Type} {R : Rep α} {T : List Nat} {own : Own} {a : Act} {w : World} {d lab lab2 : Nat} {L L2 L3 : List Nat} {x y z : Operand} {t ty e : TypeId} {pos : String} {after : Array Edge} {guard : Option (Nat × Bool)} {A A2 : Option Addr} {c c2 : Nat} {l l' m : List α} {size bytes : Nat}
theorem or_index {i : Int} {kd : IntKind} {v : α} (hT : TSlice P t R.s) (hx : a.eval x = .slice A l.length c) (hy : a.eval y = .int kd i) (hA : A = some (adr A)) (hi : ix l i = some v) :
    OpR P ⟨some d, .indexAddr t x y, ty, pos, after, guard⟩ a w (Post T own a w (Fct.val d (.pointer (some ((adr A).add (i.toNat * R.s))))) (some d)) :=
  or_val (o := ⟨some d, .indexAddr t x y, ty, pos, after, guard⟩) rfl (by
    obtain ⟨e, he, hs⟩ := hT
    obtain ⟨h0, hlt, _⟩ := ix_some hi
    obtain ⟨j, rfl⟩ : ∃ j : Nat, i = j := ⟨i.toNat, by omega⟩
    have hlt : j < l.length := by simpa using hlt
    simp only [execOp, hx, hy]
    rw [hA]
    simp [Sem.run_bind, Instr.indexAt, asIntOf, run_underlying he, hs w, hlt, adr])
theorem or_len {n : Nat} {r : Int} (hT : P.underlying t = some (.slice e)) (hx : a.eval x = .slice A n c) (hr : (n : Int) = r) :
    OpR P ⟨some d, .call ⟨.builtin .len, #[x], #[t]⟩, ty, pos, after, guard⟩ a w (Post T own a w (Fct.val d (.int .i64 r)) (some d)) :=
  or_val (o := ⟨some d, .call ⟨.builtin .len, #[x], #[t]⟩, ty, pos, after, guard⟩) rfl (by
    subst hr
    have : (Builtin.len_ #[t] ty #[.slice A n c]).run P w = .ok (goInt n) w := by simp [Builtin.len_, run_underlying hT]
    simp only [execOp, resolve, invoke, builtin, List.map_toArray, List.map_cons, List.map_nil, hx]
    simp [Sem.run_bind, this, goInt])
def Bnd (a : Act) (o : Option Operand) (n : Int) (dflt : Int) : Prop := match o with
  | none => n = dflt
  | some o => ∃ k, a.eval o = .int k n
theorem Bnd.none_ {n : Int} : Bnd a none n n := rfl
theorem Bnd.some_ {o : Operand} {n dflt : Int} {k : IntKind} (h : a.eval o = .int k n) : Bnd a (some o) n dflt := ⟨k, h⟩
theorem run_bound {v : Value} {k : IntKind} {i : Int} {y : Nat} {code : BoundsCode} (hv : v = .int k i) (h0 : 0 ≤ i) (h1 : i ≤ y) : (Instr.sliceBound v y code).run P w = .ok i.toNat w := by
  subst hv
  have : 0 ≤ i ∧ i ≤ (y : Int) := ⟨h0, h1⟩
  simp [Instr.sliceBound, asIntOf, Sem.run_bind, this]
theorem run_slice_any {n : Nat} {lo hi mx : Option Operand} {bl bh bm : Int} (hu : P.underlying t = some (.slice e)) (hs : TSize P e size) (hl : Bnd a lo bl 0) (hh : Bnd a hi bh n) (hm : Bnd a mx bm c) (h0 : 0 ≤ bl) (h1 : bl ≤ bh) (h2 : bh ≤ bm) (h3 : bm ≤ c) (hn : n ≤ c) (hmh : mx.isSome = true → hi.isSome = true) :
    (Instr.slice t (.slice A n c) (lo.map a.eval) (hi.map a.eval) (mx.map a.eval)).run P w = .ok (.slice (if bm.toNat = bl.toNat then A else A.map (·.add (bl.toNat * size))) (bh.toNat - bl.toNat) (bm.toNat - bl.toNat)) w := by
  have e3 : ∀ u : Nat, bm.toNat = u → (bm ≤ (u : Int)) := fun u h => by omega
  have key : (Instr.sliceBounds true n c (lo.map a.eval) (hi.map a.eval) (mx.map a.eval)).run P w = .ok (bl.toNat, bh.toNat, bm.toNat) w := by
    unfold Instr.sliceBounds
    cases mx with
    | none =>
      have hbm : bm = c := hm
      subst hbm
      cases hi with
      | none =>
        have hbh : bh = n := hh
        subst hbh
        cases lo with
        | none =>
          have hbl : bl = 0 := hl
          subst hbl
          simp [Sem.run_bind]
        | some lo =>
          obtain ⟨k, hk⟩ := hl
          simp [Sem.run_bind, run_bound (P := P) (w := w) (y := n) hk h0 (by omega)]
      | some hi =>
        obtain ⟨k2, hk2⟩ := hh
        cases lo with
        | none =>
          have hbl : bl = 0 := hl
          subst hbl
          simp [Sem.run_bind, run_bound (P := P) (w := w) (y := c) hk2 (by omega) (by omega)]
        | some lo =>
          obtain ⟨k, hk⟩ := hl
          simp [Sem.run_bind, run_bound (P := P) (w := w) (y := c) hk2 (by omega) (by omega), run_bound (P := P) (w := w) (y := bh.toNat) hk h0 (by omega)]
    | some mx =>
      obtain ⟨k3, hk3⟩ := hm
      cases hi with
      | none => simp at hmh
      | some hi =>
        obtain ⟨k2, hk2⟩ := hh
        cases lo with
        | none =>
          have hbl : bl = 0 := hl
          subst hbl
          simp [Sem.run_bind, run_bound (P := P) (w := w) (y := c) hk3 (by omega) (by omega), run_bound (P := P) (w := w) (y := bm.toNat) hk2 (by omega) (by omega)]
        | some lo =>
          obtain ⟨k, hk⟩ := hl
          simp [Sem.run_bind, run_bound (P := P) (w := w) (y := c) hk3 (by omega) (by omega), run_bound (P := P) (w := w) (y := bm.toNat) hk2 (by omega) (by omega), run_bound (P := P) (w := w) (y := bh.toNat) hk h0 (by omega)]
  unfold Instr.slice
  simp [Sem.run_bind, run_underlying hu, key, hs w]
theorem or_slice_val {n : Nat} {lo hi mx : Option Operand} {bl bh bm : Int} (hu : P.underlying t = some (.slice e)) (hs : TSize P e size) (hx : a.eval x = .slice A n c) (hl : Bnd a lo bl 0) (hh : Bnd a hi bh n) (hm : Bnd a mx bm c) (h0 : 0 ≤ bl) (h1 : bl ≤ bh) (h2 : bh ≤ bm) (h3 : bm ≤ c) (hn : n ≤ c) (hmh : mx.isSome = true → hi.isSome = true) :
    (execOp a.eval ⟨some d, .slice t x lo hi mx, ty, pos, after, guard⟩).run P w = .ok (.value (.slice (if bm.toNat = bl.toNat then A else A.map (·.add (bl.toNat * size))) (bh.toNat - bl.toNat) (bm.toNat - bl.toNat))) w := by
  have ht : P.underlying t = some (.slice (P.elem t)) := by simp [Program.elem, hu]
  simp only [execOp, hx]
  simp [Sem.run_bind, run_sliceAt_slice w t _ _ _ _ ht, run_slice_any (P := P) (a := a) (A := A) (w := w) hu hs hl hh hm h0 h1 h2 h3 hn hmh]
theorem or_view {lo hi mx : Option Operand} {bl bh bm : Int} (hu : P.underlying t = some (.slice e)) (hs : TSize P e R.s) (hx : a.eval x = .slice A l.length c) (hl : Bnd a lo bl 0) (hh : Bnd a hi bh l.length) (hm : Bnd a mx bm c) (h : RdO own L w R A c l) (hc : cut l bl bh = some l') (hbm : bm = c ∨ bm = bh) (hmh : mx.isSome = true → hi.isSome = true) :
    OpR P ⟨some d, .slice t x lo hi mx, ty, pos, after, guard⟩ a w (Post T own a w (Fct.view L d R l') (some d)) := by
  obtain ⟨h1, h2, h3, _, h5⟩ := cut_some hc
  have hlc := h.1
  have hb : bh ≤ bm ∧ bm ≤ c := by rcases hbm with rfl | rfl <;> omega
  unfold OpR Oper.wp
  rw [or_slice_val (e := e) hu hs hx hl hh hm h1 h2 hb.1 hb.2 hlc hmh, ← h5]
  exact ⟨_, rfl, own, Evo.refl _ _ _, fun a' ha => ⟨(_, _), ha.1 d rfl, h.cut_ hc (by omega)⟩⟩
theorem rw_owns (h : RwO own lab L w e R A c l) : (l = [] ∧ c = 0) ∨ ∃ g cs, A = some ⟨g, 0, none⟩ ∧ own g = lab ∧ RepL R w (fun b => At own L w b ∧ b ≠ g) cs l ∧ w.ownsRow 0 e R.s (.slice A l.length c) l.length cs := by
  rcases h with h | ⟨g, cur, h1, h2, h3, h4, h5, h6, h7⟩
  · exact .inl h
  · subst h1
    exact .inr ⟨g, _, rfl, h2, h7, h7.len, .inr ⟨g, c, cur, rfl, Nat.zero_le _, h3, h4, h5, h6, rfl⟩⟩
theorem run_append_free {a0 : Addr} {n c2 : Nat} (hT : TApp P t e size bytes) (hn : 0 < n) (hb8 : 0 < bytes) (hb : n * bytes ≤ 140737488355328) :
    (Builtin.append_ #[t, t] ty #[.slice (some a0) 0 0, .slice A2 n c2]).run P w = (Builtin.append_ #[t, t] ty #[.slice none 0 0, .slice A2 n c2]).run P w := by
  obtain ⟨ht, i, z, hi, hz, hsz, hby, hzs, hpos⟩ := hT
  have h1 : ¬ n ≤ 0 := by omega
  have h2 : n ≠ 0 := by omega
  have h3 : ¬ (281474976710656 < n * bytes) := by omega
  have h4 : bytes ≠ 0 := by omega
  simp [Builtin.append_, run_underlying ht, sizeOf, typeInfo, hi, Builtin.lenOf, Builtin.firstCells, h2, Builtin.nextslicecap, hn, hby, h3, h4, loadCells, loadCellsFrom]
theorem run_append_rw (hT : TApp P t e R.s bytes) (ho : RwO own lab L w e R A c l) (h0 : lab ≠ 0) (hr : RdO own L2 w R A2 c2 m) (hb : (l.length + m.length) * bytes ≤ 140737488355328) (hb8 : 0 < bytes) (hTl : lab ∈ T) (hm : R.Flat ∨ (hits T L = false ∧ hits T L2 = false ∧ (∀ x ∈ L, x ∈ L3) ∧ ∀ x ∈ L2, x ∈ L3)) :
    ∃ A' c' w', (Builtin.append_ #[t, t] ty #[.slice A l.length c, .slice A2 m.length c2]).run P w = .ok (.slice A' (l ++ m).length c') w' ∧ Evo T own (mvOwn w T lab2 own) w w' ∧ RwO (mvOwn w T lab2 own) lab2 L3 w' e R A' c' (l ++ m) := by
  -- what is appended
  obtain ⟨news, hn1, hn2⟩ := hr.2
  have h1 := hn1.one
  have hnl := hn1.len
  have hl63 : l.length + m.length ≤ maxLen := by
    have : l.length + m.length ≤ (l.length + m.length) * bytes := Nat.le_mul_of_pos_right _ hb8
    simp only [maxLen]; omega
  -- behind an append to a slice of one's own
  have fin : ∀ (A0 : Option Addr) (c0 : Nat) (cs : List Value), RepL R w (fun b => At own L w b ∧ ∀ g, A0 = some ⟨g, 0, none⟩ → b ≠ g) cs l → w.ownsRow 0 e R.s (.slice A0 l.length c0) l.length cs → (∀ g, A0 = some ⟨g, 0, none⟩ → own g = lab) →
      ∃ A' c' w', (Builtin.append_ #[t, t] ty #[.slice A0 l.length c0, .slice A2 m.length c2]).run P w = .ok (.slice A' (l ++ m).length c') w' ∧ Evo T own (mvOwn w T lab2 own) w w' ∧ RwO (mvOwn w T lab2 own) lab2 L3 w' e R A' c' (l ++ m) := by
    intro A0 c0 cs hrep hown hlab
    rcases Nat.eq_zero_or_pos m.length with hz | hz
    · -- nothing is appended
      have hm0 : m = [] := List.eq_nil_of_length_eq_zero hz
      subst hm0
      have hlc : l.length ≤ c0 := by
        rcases hown.2 with ⟨h, h'⟩ | ⟨g, cap, cur, hv, _, _, h, _⟩
        · omega
        · injection hv with _ _ h3; omega
      have hrun : (Builtin.append_ #[t, t] ty #[.slice A0 l.length c0, .slice A2 ([] : List α).length c2]).run P w = .ok (.slice A0 l.length c0) w := by
        obtain ⟨ht, i, z, hi, hz, hsz, hby, hzs, hpos⟩ := hT
        cases A0 with
        | none => simp [Builtin.append_, run_underlying ht, sizeOf, typeInfo, hi, Builtin.lenOf, Builtin.firstCells, hlc]; cases A2 <;> simp [loadCells, loadCellsFrom, Sem.run_bind]
        | some a0 => simp [Builtin.append_, run_underlying ht, sizeOf, typeInfo, hi, Builtin.lenOf, Builtin.firstCells, hlc, storeCells]; cases A2 <;> simp [loadCells, loadCellsFrom, Sem.run_bind, storeCells]
      refine ⟨A0, c0, w, by simpa using hrun, Evo.mv T lab2 own rfl rfl rfl (Nat.le_refl _) (fun _ _ _ => rfl), ?_⟩
      rw [List.append_nil]
      rcases hown.2 with ⟨h, h'⟩ | ⟨g, cap, cur, hv, _, hg, g1, g2, g3, g4⟩
      · injection h with h1 h2 h3
        exact .inl ⟨List.eq_nil_of_length_eq_zero h', h3⟩
      · injection hv with h1 h2 h3
        subst h1 h3
        rcases hm with hm | ⟨hm1, _, hm2, _⟩
        · refine RwO.mv hTl h0 (.inl hm) (.inr ⟨g, cur, rfl, hlab g rfl, hg, g1, g2, g3, ?_⟩)
          rw [g4]
          exact hrep.flat hm _ _
        · refine RwO.more (L := L) (RwO.mv hTl h0 (.inr hm1) (.inr ⟨g, cur, rfl, hlab g rfl, hg, g1, g2, g3, ?_⟩)) hm2
          rw [g4]
          exact hrep.loc fun b hb => ⟨⟨hb.1, hb.2 g rfl⟩, rfl⟩
    · obtain ⟨b2, off, rfl, hb2, hcell⟩ := hn2 hz
      obtain ⟨ht, i, z, hi, hz', hsz, hby, hzs, hpos⟩ := hT
      obtain ⟨v', w', g1, g2, g3, _, g5⟩ := run_append_own_at (P := P) w 0 t ty e i z R.s bytes ht hi hz' hsz hby hzs hpos (.slice A0 l.length c0) l.length cs hown ⟨b2, off, none⟩ m.length c2 news hnl (fun j u hu => by
        have e : (⟨b2, off, none⟩ : Addr).add j = ⟨b2, off + j, none⟩ := by unfold Addr.add; split <;> simp_all
        rw [e]; exact hcell j u hu) h1 hl63 hb (Nat.zero_le _)
      have hkeep : ∀ b, b < w.heap.size → (own b ∈ T → own b = 0) → w'.heap[b]? = w.heap[b]? := by
        intro b hb hbT
        refine g3.block b hb ?_
        intro he
        rcases hown.2 with ⟨h, _⟩ | ⟨g, cap, cur, hv, _, hg, _⟩
        · rw [h] at he; simp [Value.ownBlock] at he
        · rw [hv] at he
          simp [Value.ownBlock] at he
          subst he
          injection hv with hv _ _
          have := hlab b hv
          rw [this] at hbT
          exact h0 (hbT hTl)
      have hev : Evo T own (mvOwn w T lab2 own) w w' := Evo.mv T lab2 own g3.os g3.tape g3.output g3.size hkeep
      rcases g2.2 with ⟨_, h'⟩ | ⟨g, cap, cur, hv, _, hg, k1, k2, k3, k4⟩
      · omega
      · subst hv
        refine ⟨some ⟨g, 0, none⟩, cap, w', by rw [List.length_append]; exact g1, hev, .inr ⟨g, cur, rfl, ?_, hg, by rw [List.length_append]; exact k1, k2, k3, ?_⟩⟩
        · -- whose the new block is
          rcases g5 with h | h
          · rcases hown.2 with ⟨h', _⟩ | ⟨g', cap', cur', hv', _, hg', _⟩
            · rw [h'] at h; simp [Value.ownBlock] at h
            · rw [hv'] at h
              simp [Value.ownBlock] at h
              injection hv' with hv' _ _
              have hl := hlab g' hv'
              rw [h]
              exact mvOwn_struck (by rw [hl]; exact hTl) (by rw [hl]; exact h0)
          · simp [Value.ownBlock] at h
            exact mvOwn_new (by omega)
        · rw [List.length_append, k4]
          -- where the things lie
          have hgl : g < w.heap.size → A0 = some ⟨g, 0, none⟩ := by
            intro hlt
            rcases g5 with h | h
            · rcases hown.2 with ⟨h', _⟩ | ⟨g', cap', cur', hv', _, hg', _⟩
              · rw [h'] at h; simp [Value.ownBlock] at h
              · rw [hv'] at h
                simp [Value.ownBlock] at h
                injection hv' with hv' _ _
                rw [hv', h]
            · simp [Value.ownBlock] at h; omega
          have hblk : ∀ b, b < w.heap.size → b ≠ g → (∀ g, A0 = some ⟨g, 0, none⟩ → b ≠ g) → w'.heap[b]? = w.heap[b]? := by
            intro b hb hne hA
            refine g3.block b hb ?_
            intro he
            rcases hown.2 with ⟨h, _⟩ | ⟨g', cap', cur', hv', _, _⟩
            · rw [h] at he; simp [Value.ownBlock] at he
            · rw [hv'] at he
              simp [Value.ownBlock] at he
              injection hv' with hv' _ _
              exact hA g' hv' he
          rcases hm with hm | ⟨hm1, hm2, hm3, hm4⟩
          · exact RepL.append (hrep.flat hm _ _) (hn1.flat hm _ _)
          refine RepL.append (hrep.loc fun b hb => ?_) (hn1.loc fun b hb => ?_)
          · have hne : b ≠ g := fun e => hb.2 g (hgl (by rw [← e]; exact hb.1.2)) e
            refine ⟨⟨⟨?_, Nat.lt_of_lt_of_le hb.1.2 g3.size⟩, hne⟩, hblk b hb.1.2 hne hb.2⟩
            rw [mvOwn_same hb.1.2 (not_hit hm1 hb.1.1)]
            exact hm3 _ hb.1.1
          · have hnA : ∀ g, A0 = some ⟨g, 0, none⟩ → b ≠ g := by
              intro g hA e
              subst e
              have hl := hlab b hA
              refine not_hit hm2 hb.1 ?_
              rw [hl]; exact hTl
            have hne : b ≠ g := fun e => hnA g (hgl (by rw [← e]; exact hb.2)) e
            refine ⟨⟨⟨?_, Nat.lt_of_lt_of_le hb.2 g3.size⟩, hne⟩, hblk b hb.2 hne hnA⟩
            rw [mvOwn_same hb.2 (not_hit hm2 hb.1)]
            exact hm4 _ hb.1
  rcases rw_owns ho with ⟨rfl, rfl⟩ | ⟨g, cs, rfl, hgl, hrep, hown⟩
  · -- an empty slice without room
    have key := fin none 0 [] rfl ⟨by simp, .inl ⟨rfl, rfl⟩⟩ (fun g h => by cases h)
    cases A with
    | none => exact key
    | some a0 =>
      rcases Nat.eq_zero_or_pos m.length with hz | hz
      · have hm0 : m = [] := List.eq_nil_of_length_eq_zero hz
        subst hm0
        have hrun : (Builtin.append_ #[t, t] ty #[.slice (some a0) ([] : List α).length 0, .slice A2 ([] : List α).length c2]).run P w = .ok (.slice (some a0) 0 0) w := by
          obtain ⟨ht, i, z, hi, hz, hsz, hby, hzs, hpos⟩ := hT
          simp [Builtin.append_, run_underlying ht, sizeOf, typeInfo, hi, Builtin.lenOf, Builtin.firstCells, storeCells]; cases A2 <;> simp [loadCells, loadCellsFrom, Sem.run_bind, storeCells]
        exact ⟨some a0, 0, w, by simpa using hrun, Evo.mv T lab2 own rfl rfl rfl (Nat.le_refl _) (fun _ _ _ => rfl), .inl ⟨rfl, rfl⟩⟩
      · obtain ⟨A', c', w', h2, h3⟩ := key
        refine ⟨A', c', w', ?_, h3⟩
        rw [← h2]
        exact run_append_free hT hz hb8 (by simpa using hb)
  · exact fin _ c cs (hrep.loc fun b hb => ⟨⟨hb.1, fun g' h => by injection h with h; injection h with h; subst h; exact hb.2⟩, rfl⟩) hown (fun g' h => by injection h with h; injection h with h; subst h; exact hgl)
theorem or_append {r : List α} (hT : TApp P t e R.s bytes) (hx : a.eval x = .slice A l.length c) (ho : RwO own lab L w e R A c l) (h0 : lab ≠ 0) (hy : a.eval y = .slice A2 m.length c2) (hr : RdO own L2 w R A2 c2 m) (hl : app l m = some r) (hb8 : 0 < bytes) (hb : bytes ≤ 140000) (hTl : lab ∈ T) (hm : R.Flat ∨ (hits T L = false ∧ hits T L2 = false ∧ (∀ x ∈ L, x ∈ L3) ∧ ∀ x ∈ L2, x ∈ L3)) :
    OpR P ⟨some d, .call ⟨.builtin .append, #[x, y], #[t, t]⟩, ty, pos, after, guard⟩ a w (Post T own a w (Fct.row lab2 L3 d e R r) (some d)) := by
  obtain ⟨hlen, rfl⟩ := app_some hl
  obtain ⟨A', c', w', hrun, hev, hO⟩ := run_append_rw (P := P) (ty := ty) (lab2 := lab2) hT ho h0 hr (by
    have : (l.length + m.length) * bytes ≤ capB * 140000 := Nat.mul_le_mul hlen hb
    simp only [capB] at this; omega) hb8 hTl hm
  unfold OpR Oper.wp
  have hr' : (execOp a.eval ⟨some d, .call ⟨.builtin .append, #[x, y], #[t, t]⟩, ty, pos, after, guard⟩).run P w = .ok (.value (.slice A' (l ++ m).length c')) w' := by
    simp only [execOp, resolve, invoke, builtin, List.map_toArray, List.map_cons, List.map_nil, hx, hy]
    simp only [Sem.run_bind, Sem.run_pure, Result.andThen_ok, hrun]
  rw [hr']
  exact ⟨_, rfl, _, hev, fun a' ha => ⟨(A', c'), ha.1 d rfl, hO⟩⟩
theorem or_lit {F : En α} {cs : Array Value} {n : Nat} {o : Oper} (h : OpR P o a w (Post T own a w (Fct.blk lab d (fun g => .slice (some ⟨g, 0, none⟩) n n) e cs) o.dst)) (hn : l.length = n) (hcs : cs.toList = enc F l) (hm : n ≤ maxLen) : OpR P o a w (Post T own a w (Fct.row lab [] d e (Rep.fl F) l) o.dst) := by
  refine or_mono h fun own' a' w' v _ hp => ?_
  obtain ⟨g, hv, hg, hb⟩ := hp
  subst hn
  have hl := RepL.len (RepL.enc F w' (fun b => At own' [] w' b ∧ b ≠ g) l)
  have hl : (enc F l).length = l.length * F.s := hl
  refine ⟨(some ⟨g, 0, none⟩, l.length), hv, .inr ⟨g, cs, rfl, hg, hb, Nat.le_refl _, hm, ?_, ?_⟩⟩
  · rw [← Array.length_toList, hcs]; exact hl
  · rw [List.take_of_length_le (by rw [hcs, hl]; exact Nat.le_refl _), hcs]
    exact RepL.enc F w' _ l
theorem post_row {m' : Nat → Nat} {V : Option Addr × Nat → Value} (hL : R.Flat ∨ 0 ∉ L) (hm : m' 1 = lab2) (hm2 : L.map m' = L2) (hV : ∀ x, V x = .slice x.1 l.length x.2) :
    ∀ (e' : Ending) (w' : World), (∃ (own' : Own) (x : Option Addr × Nat), e' = .returned (V x) ∧ Evo [] (fun _ => 0) own' w w' ∧ RwO own' 1 L w' e R x.1 x.2 l) → ∃ v, e' = .returned v ∧ Post T own a w (Fct.row lab2 L2 d e R l) (some d) v w' := by
  rintro e' w' ⟨own', x, he, hev, hO⟩
  refine ⟨_, he, _, Evo.back0_ T m' hev, fun a' ha => ⟨x, (ha.1 d rfl).trans (hV x), ?_⟩⟩
  have := hO.back_ (own := own) (w := w) (m' := m') (by decide) hL
  rwa [hm, hm2] at this
end
theorem hits_sub {T L L' : List Nat} (h : hits T L = false) (hL : ∀ x ∈ L', x ∈ L) : hits T L' = false := by
  cases h' : hits T L' with
  | false => rfl
  | true =>
    obtain ⟨t, ht, hl⟩ := List.any_eq_true.1 h'
    obtain ⟨x, hx, hb⟩ := List.any_eq_true.1 hl
    have : hits T L = true := List.any_eq_true.2 ⟨t, ht, List.any_eq_true.2 ⟨x, hL x hx, hb⟩⟩
    rw [h] at this; cases this
theorem BlkO.cs_ {own : Own} {lab g : Nat} {w : World} {ty : TypeId} {cs cs' : Array Value} (h : BlkO own lab w g ty cs) (e : cs = cs') : BlkO own lab w g ty cs' := e ▸ h
theorem BlkO.zero_ {own : Own} {lab g : Nat} {w : World} {ty : TypeId} {cs : Array Value} (h : BlkO own lab w g ty cs) : BlkO (fun _ => 0) 0 w g ty cs := ⟨rfl, h.2⟩
theorem CellsAt.head_ {w : World} {p : Addr} {l l' : List Value} (h : CellsAt w p l) (hl : l.take l'.length = l') : CellsAt w p l' := by
  have := h.part 0 (l' := l') (by simpa using hl)
  simpa [Addr.add] using this
def look0 (m : List (Nat × Nat)) (x : Nat) : Nat := match m with
  | [] => 0
  | p :: r => if Nat.beq p.1 x then p.2 else look0 r x
theorem look0_le {m : List (Nat × Nat)} {j : Nat} {own : Own} (h : (m.all fun p => Nat.ble p.2 j) = true) : ∀ b, forth own (look0 m) b ≤ j := by
  intro b
  show look0 m (own b) ≤ j
  generalize own b = x
  induction m with
  | nil => exact Nat.zero_le _
  | cons p r ih =>
    simp only [List.all_cons, Bool.and_eq_true] at h
    unfold look0
    split
    · exact Nat.le_of_ble_eq_true h.1
    · exact ih h.2
theorem hm_of {mm : List (Nat × Nat)} {T K : List Nat} {m' : Nat → Nat} (h : (mm.all fun p => T.any (Nat.beq p.1) && !Nat.beq p.1 0) = true) : ∀ l, (l ∈ T → l = 0) → look0 mm l = 0 ∨ (look0 mm l ∉ K ∧ m' (look0 mm l) = l) := by
  intro l hl
  refine .inl ?_
  induction mm with
  | nil => rfl
  | cons p r ih =>
    simp only [List.all_cons, Bool.and_eq_true] at h
    unfold look0
    split
    · rename_i hb
      have e := Nat.eq_of_beq_eq_true hb
      obtain ⟨t, ht, hb2⟩ := List.any_eq_true.1 h.1.1
      have e2 := Nat.eq_of_beq_eq_true hb2
      have h0 := hl (by rw [← e, e2]; exact ht)
      have h3 := h.1.2
      rw [e, h0] at h3
      cases h3
    · exact ih h.2
section
variable {T K : List Nat} {own : Own} {w : World} {d : Nat} {a : Act} {m m' : Nat → Nat}
theorem post_mems {β : Type} {V : β → Value} {q : β → Own → World → Prop} {f : Fct}
    (hm : ∀ l, (l ∈ T → l = 0) → m l = 0 ∨ (m l ∉ K ∧ m' (m l) = l)) (hb : ∀ (own' : Own) (w' : World) (a' : Act) (x : β), a'.eval (.tmp d) = V x → q x own' w' → f.p (back own own' w m') a' w') :
    ∀ (e' : Ending) (w' : World), (∃ (own' : Own) (x : β), e' = .returned (V x) ∧ Evo K (forth own m) own' w w' ∧ q x own' w') → ∃ v, e' = .returned v ∧ Post T own a w f (some d) v w' := by
  rintro e' w' ⟨own', x, he, hev, hO⟩
  exact ⟨_, he, _, Evo.back_ hev hm, fun a' ha => hb _ _ _ _ (ha.1 d rfl) hO⟩
theorem post_mems0 {V : Value} {q : Own → World → Prop} {f : Fct}
    (hm : ∀ l, (l ∈ T → l = 0) → m l = 0 ∨ (m l ∉ K ∧ m' (m l) = l)) (hb : ∀ (own' : Own) (w' : World) (a' : Act), a'.eval (.tmp d) = V → q own' w' → f.p (back own own' w m') a' w') :
    ∀ (e' : Ending) (w' : World), (∃ own' : Own, e' = .returned V ∧ Evo K (forth own m) own' w w' ∧ q own' w') → ∃ v, e' = .returned v ∧ Post T own a w f (some d) v w' := by
  rintro e' w' ⟨own', he, hev, hO⟩
  exact ⟨_, he, _, Evo.back_ hev hm, fun a' ha => hb _ _ _ (ha.1 d rfl) hO⟩
end
def inL (La : List Nat) (l : Nat) : Nat := if La.any (Nat.beq l) then 1 else 0
theorem inL_le {La : List Nat} {own : Own} : ∀ b, forth own (inL La) b ≤ 1 := by
  intro b
  show inL La (own b) ≤ 1
  unfold inL
  split <;> omega
theorem inL_mem {La : List Nat} {l : Nat} (h : inL La l = 1) : l ∈ La := by
  unfold inL at h
  split at h
  · rename_i h1; exact mem_of h1
  · cases h
theorem inL_of {La : List Nat} {l : Nat} (h : l ∈ La) : inL La l = 1 := if_pos (List.any_eq_true.2 ⟨l, h, by simp⟩)
def backN (own own' : Own) (w : World) (m : Nat → Nat) : Own := fun b => if b < w.heap.size then own b else m (own' b)
section
variable {α : Type} {R : Rep α} {T La L L' : List Nat} {own own' : Own} {w w' : World} {d : Nat} {a : Act} {m' : Nat → Nat} {A : Option Addr} {c lab : Nat} {l : List α} {e : TypeId}
theorem RdO.alias_ (h : RdO own L w R A c l) (hL : ∀ x ∈ L, x ∈ La) : RdO (forth own (inL La)) [1] w R A c l :=
  h.sub fun b hb => ⟨by show inL La (own b) ∈ [1]; rw [inL_of (hL _ hb.1)]; simp, hb.2⟩
theorem RdO.backN_ (ho : ∀ b, b < w.heap.size → own' b = inL La (own b)) (hs : w.heap.size ≤ w'.heap.size) (h : RdO own' L w' R A c l) (h0 : 0 ∉ L) (hL : ∀ x ∈ La, x ∈ L') (hm : ∀ x ∈ L, m' x ∈ L') : RdO (backN own own' w m') L' w' R A c l :=
  h.sub fun b hb => ⟨by
    unfold backN
    by_cases hlt : b < w.heap.size
    · rw [if_pos hlt]
      have h1 := ho b hlt
      have h2 : inL La (own b) = 1 := by
        have : inL La (own b) ≠ 0 := fun h3 => h0 (by rw [← h3, ← h1]; exact hb.1)
        have := inL_le (La := La) (own := own) b
        have : inL La (own b) ≤ 1 := this
        omega
      exact hL _ (inL_mem h2)
    · rw [if_neg hlt]; exact hm _ hb.1, hb.2⟩
theorem RwO.backN_ (ho : ∀ b, b < w.heap.size → own' b = inL La (own b)) (h : RwO own' lab L w' e R A c l) (h0 : 1 < lab) (hR : R.Flat) : RwO (backN own own' w m') (m' lab) [] w' e R A c l := by
  rcases h with h | ⟨g, cur, h1, h2, h3, h4, h5, h6, h7⟩
  · exact .inl h
  · refine .inr ⟨g, cur, h1, ?_, h3, h4, h5, h6, h7.flat hR _ _⟩
    unfold backN
    rw [if_neg, h2]
    intro hlt
    have h8 := ho g hlt
    have := inL_le (La := La) (own := own) g
    have : inL La (own g) ≤ 1 := this
    omega
theorem post_alias {β : Type} {V : β → Value} {q : β → Own → World → Prop} {f : Fct}
    (hb : ∀ (own' : Own) (w' : World) (a' : Act) (x : β), (∀ b, b < w.heap.size → own' b = inL La (own b)) → w.heap.size ≤ w'.heap.size → a'.eval (.tmp d) = V x → q x own' w' → f.p (backN own own' w m') a' w') :
    ∀ (e' : Ending) (w' : World), (∃ (own' : Own) (x : β), e' = .returned (V x) ∧ Evo [] (forth own (inL La)) own' w w' ∧ q x own' w') → ∃ v, e' = .returned v ∧ Post T own a w f (some d) v w' := by
  rintro e' w' ⟨own', x, he, hev, hO⟩
  have ho : ∀ b, b < w.heap.size → own' b = inL La (own b) := fun b hb => (hev.keep b hb (fun h => by cases h)).1
  exact ⟨_, he, backN own own' w m', ⟨hev.os, hev.tape, hev.output, hev.size, fun b hb _ => ⟨if_pos hb, (hev.keep b hb (fun h => by cases h)).2⟩⟩, fun a' ha => hb _ _ _ _ ho hev.size (ha.1 d rfl) hO⟩
end
end Go.Proofs.Ytnmkonlfnpcoiaa
