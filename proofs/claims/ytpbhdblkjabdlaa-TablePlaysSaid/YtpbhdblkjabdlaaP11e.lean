import Derived.Test.YtpbhdblkjabdlaaP11d
namespace Go.Proofs.Ytpbhdblkjabdlaa.Pl
set_option maxRecDepth 4000
section
variable {α : Type} [DecidableEq α]
theorem adK_mem (l : List α) (x : α) : x ∈ adK' l x := by
  unfold adK'
  split
  · rename_i h; exact (fnd_lt x l).1 h
  · simp
theorem adK_app (l : List α) (x : α) : ∃ m, adK' l x = l ++ m ∧ (∀ y ∈ m, y = x) := by
  unfold adK'
  split
  · exact ⟨[], by simp, by simp⟩
  · exact ⟨[x], rfl, by simp⟩
theorem adK_fnd (l : List α) (x : α) : fnd x (adK' l x) = fnd x l := by
  unfold adK'
  split
  · rfl
  · rename_i h
    have h1 := fnd_le x l
    have h2 : x ∉ l := fun hm => h ((fnd_lt x l).2 hm)
    rw [fnd_not h2]
    have : ∀ l : List α, x ∉ l → fnd x (l ++ [x]) = l.length := by
      intro l
      induction l with
      | nil => intro _; simp [fnd]
      | cons a l ih =>
        intro hn
        rw [List.cons_append, fnd, if_neg (fun e => hn (by simp [e])), ih (fun hm => hn (by simp [hm]))]; rfl
    exact this l h2
theorem adK_nodup {l : List α} {x : α} (h : l.Nodup) : (adK' l x).Nodup := by
  unfold adK'
  split
  · exact h
  · rename_i hn
    rw [List.nodup_append]
    refine ⟨h, by simp, fun a ha b hb e => ?_⟩
    rw [List.mem_singleton] at hb
    subst hb; subst e
    exact hn ((fnd_lt _ l).2 ha)
end
def tagsOf (K : List ByteArray) (V : List Val) (l : List Att) : List Int := l.flatMap fun a => [(fnd a.1 K : Int), (fnd a.2 V : Int)]
theorem tagsOf_len (K : List ByteArray) (V : List Val) : ∀ l : List Att, (tagsOf K V l).length = 2 * l.length
  | [] => rfl
  | a :: l => by
    unfold tagsOf
    rw [List.flatMap_cons, List.length_append]
    have := tagsOf_len K V l
    unfold tagsOf at this
    simp only [List.length_cons, List.length_nil, this]; omega
theorem tagsOf_pre {K K2 : List ByteArray} {V V2 : List Val} : ∀ {l : List Att}, (∀ a ∈ l, a.1 ∈ K ∧ a.2 ∈ V) → tagsOf (K ++ K2) (V ++ V2) l = tagsOf K V l
  | [], _ => rfl
  | a :: l, h => by
    unfold tagsOf
    rw [List.flatMap_cons, List.flatMap_cons, fnd_pre _ _ _ (h a (by simp)).1, fnd_pre _ _ _ (h a (by simp)).2]
    have := tagsOf_pre (K2 := K2) (V2 := V2) (l := l) (fun b hb => h b (by simp [hb]))
    unfold tagsOf at this
    rw [this]
theorem addT_spec : ∀ (l : List Att) (K : List ByteArray) (V : List Val) (o : List Int), ∃ K2 V2, (addT l K V o).1 = K ++ K2 ∧ (addT l K V o).2.1 = V ++ V2 ∧ (∀ a ∈ l, a.1 ∈ K ++ K2 ∧ a.2 ∈ V ++ V2) ∧ (addT l K V o).2.2 = o ++ tagsOf (K ++ K2) (V ++ V2) l ∧
    (K.Nodup → (K ++ K2).Nodup) ∧ (V.Nodup → (V ++ V2).Nodup) ∧ (∀ k ∈ K2, ∃ a ∈ l, a.1 = k) ∧ (∀ v ∈ V2, ∃ a ∈ l, a.2 = v) ∧ K2.length ≤ l.length ∧ V2.length ≤ l.length
  | [], K, V, o => ⟨[], [], by simp [addT], by simp [addT], by simp, by simp [addT, tagsOf], by simp, by simp, by simp, by simp, by simp, by simp⟩
  | a :: l, K, V, o => by
    rw [addT]
    obtain ⟨mK, hK, hmK⟩ := adK_app K a.1
    obtain ⟨mV, hV, hmV⟩ := adK_app V a.2
    have lK := (adK_len K a.1).2
    have lV := (adK_len V a.2).2
    obtain ⟨K2, V2, h1, h2, h3, h4, h5, h6, h7, h8, h9, h10⟩ := addT_spec l (adK' K a.1) (adK' V a.2) (o ++ [(fnd a.1 K : Int), (fnd a.2 V : Int)])
    have eK : adK' K a.1 ++ K2 = K ++ (mK ++ K2) := by rw [hK, List.append_assoc]
    have eV : adK' V a.2 ++ V2 = V ++ (mV ++ V2) := by rw [hV, List.append_assoc]
    refine ⟨mK ++ K2, mV ++ V2, by rw [h1, eK], by rw [h2, eV], fun b hb => ?_, ?_, fun hn => ?_, fun hn => ?_, fun k hk => ?_, fun v hv => ?_, ?_, ?_⟩
    · rw [← eK, ← eV]
      rcases List.mem_cons.1 hb with h | h
      · subst h
        exact ⟨List.mem_append_left _ (adK_mem _ _), List.mem_append_left _ (adK_mem _ _)⟩
      · exact h3 b h
    · rw [h4, ← eK, ← eV, List.append_assoc]
      congr 1
      unfold tagsOf
      rw [List.flatMap_cons, fnd_pre _ _ _ (adK_mem _ _), fnd_pre _ _ _ (adK_mem _ _), adK_fnd, adK_fnd]
    · rw [← eK]; exact h5 (adK_nodup hn)
    · rw [← eV]; exact h6 (adK_nodup hn)
    · rcases List.mem_append.1 hk with h | h
      · exact ⟨a, by simp, (hmK k h).symm⟩
      · obtain ⟨b, hb, e⟩ := h7 k h
        exact ⟨b, by simp [hb], e⟩
    · rcases List.mem_append.1 hv with h | h
      · exact ⟨a, by simp, (hmV v h).symm⟩
      · obtain ⟨b, hb, e⟩ := h8 v h
        exact ⟨b, by simp [hb], e⟩
    · rw [hK, List.length_append] at lK
      rw [List.length_append, List.length_cons]; omega
    · rw [hV, List.length_append] at lV
      rw [List.length_append, List.length_cons]; omega
theorem hasK_false {x : ByteArray} {out : List Att} (h : x ∉ out.map (·.1)) : hasK x out = false := by
  unfold hasK
  rw [List.any_eq_false]
  intro p hp e
  exact h (List.mem_map.2 ⟨p, hp, by simpa using e⟩)
theorem atS_tags {K : List ByteArray} {V : List Val} : ∀ (l out : List Att), (∀ a ∈ l, a.1 ∈ K ∧ a.2 ∈ V) → ((out ++ l).map (·.1)).Nodup → atS K V (tagsOf K V l) out = (out ++ l, 0)
  | [], out, _, _ => by unfold tagsOf; simp [atS]
  | a :: l, out, h, hn => by
    have hk := (fnd_lt a.1 K).2 (h a (by simp)).1
    have hv := (fnd_lt a.2 V).2 (h a (by simp)).2
    unfold tagsOf
    rw [List.flatMap_cons, List.cons_append, List.cons_append, List.nil_append, atS, if_neg (by omega), Int.toNat_natCast, Int.toNat_natCast, fnd_at _ _ _ (h a (by simp)).1, fnd_at _ _ _ (h a (by simp)).2]
    have hh : hasK a.1 out = false := hasK_false fun hm => by
      rw [List.map_append, List.nodup_append] at hn
      exact hn.2.2 _ hm a.1 (by simp) rfl
    rw [hh, if_neg (by decide)]
    have := atS_tags l (out ++ [(a.1, a.2)]) (fun b hb => h b (by simp [hb])) (by rw [List.append_assoc]; exact hn)
    unfold tagsOf at this
    rw [this, List.append_assoc]; rfl
structure Told (K : List ByteArray) (V : List Val) (tags : List Int) (l : List Att) : Prop where
  tg : tags = tagsOf K V l
  mem : ∀ a ∈ l, a.1 ∈ K ∧ a.2 ∈ V
  few : l.length ≤ 8
  once : (l.map (·.1)).Nodup
theorem Told.attr {K : List ByteArray} {V : List Val} {tags : List Int} {l : List Att} (h : Told K V tags l) : attr K V tags = (l, 0) := by
  unfold Pl.attr
  rw [h.tg, tagsOf_len, if_neg (by omega), if_neg (by have := h.few; omega), atS_tags l [] h.mem (by simpa using h.once)]; rfl
theorem Told.more {K K2 : List ByteArray} {V V2 : List Val} {tags : List Int} {l : List Att} (h : Told K V tags l) : Told (K ++ K2) (V ++ V2) tags l :=
  ⟨by rw [h.tg, tagsOf_pre h.mem], fun a ha => ⟨List.mem_append_left _ (h.mem a ha).1, List.mem_append_left _ (h.mem a ha).2⟩, h.few, h.once⟩
theorem Told.len {K : List ByteArray} {V : List Val} {tags : List Int} {l : List Att} (h : Told K V tags l) : tags.length ≤ 16 := by
  rw [h.tg, tagsOf_len]; have := h.few; omega
structure TOk (K : List ByteArray) (V : List Val) : Prop where
  k0 : ∀ k ∈ K, kchk k = 0 ∧ Sh k
  v0 : ∀ v ∈ V, vchk v = 0 ∧ ShV v
  kn : K.Nodup
  vn : V.Nodup
theorem TOk.chk {K : List ByteArray} {V : List Val} (h : TOk K V) : tchk K V = 0 := by
  unfold tchk
  have h1 : chkL id kchk K [] = 0 := (chkL_zero K []).2 ⟨fun k hk => (h.k0 k hk).1, by simpa using h.kn, by simp⟩
  have h2 : chkL id vchk V [] = 0 := (chkL_zero V []).2 ⟨fun k hk => (h.v0 k hk).1, by simpa using h.vn, by simp⟩
  rw [h1, h2]; rfl
theorem lchk_ok {l : List Att} (h : lchk l = 0) : l.length ≤ 8 ∧ (∀ a ∈ l, kchk a.1 = 0 ∧ vchk a.2 = 0) ∧ (l.map (·.1)).Nodup := by
  unfold lchk at h
  by_cases h8 : 8 < l.length
  · rw [if_pos h8] at h; cases h
  rw [if_neg h8] at h
  obtain ⟨h1, h2, _⟩ := (chkL_zero l []).1 h
  refine ⟨by omega, fun a ha => ?_, h2⟩
  have := h1 a ha
  unfold achk at this
  unfold kchk
  by_cases hn : nmB a.1 = true
  · rw [if_pos hn] at this ⊢; exact ⟨rfl, this⟩
  · rw [if_neg hn] at this; cases this
theorem add_all {K : List ByteArray} {V : List Val} {l : List Att} (hk : K.length ≤ 500) (hv : V.length ≤ 500) (hc : Cutd l) (h : lchk l = 0) :
    ∃ K2 V2 tags, table_Table_Add (K, V) l = some (tags, 0, (K ++ K2, V ++ V2)) ∧ Told (K ++ K2) (V ++ V2) tags l ∧ (TOk K V → TOk (K ++ K2) (V ++ V2)) ∧ K2.length ≤ 10 ∧ V2.length ≤ 10 ∧ (∀ k ∈ K2, kchk k = 0 ∧ Sh k) ∧ (∀ v ∈ V2, vchk v = 0 ∧ ShV v) ∧ addT l K V [] = (K ++ K2, V ++ V2, tags) := by
  obtain ⟨K2, V2, h1, h2, h3, h4, h5, h6, h7, h8, h9, h10⟩ := addT_spec l K V []
  obtain ⟨c1, c2, c3⟩ := lchk_ok h
  have hK2 : ∀ k ∈ K2, kchk k = 0 ∧ Sh k := fun k hk => by
    obtain ⟨a, ha, rfl⟩ := h7 k hk
    exact ⟨(c2 a ha).1, (hc.sh a ha).1⟩
  have hV2 : ∀ v ∈ V2, vchk v = 0 ∧ ShV v := fun v hv => by
    obtain ⟨a, ha, rfl⟩ := h8 v hv
    exact ⟨(c2 a ha).2, (hc.sh a ha).2⟩
  have hl := hc.1
  rw [List.nil_append] at h4
  refine ⟨K2, V2, tagsOf (K ++ K2) (V ++ V2) l, ?_, ⟨rfl, h3, c1, c3⟩, fun ht => ⟨fun k hk => ?_, fun v hv => ?_, h5 ht.kn, h6 ht.vn⟩, by omega, by omega, hK2, hV2, ?_⟩
  · rw [Add_eq (by omega) (by omega) (by omega) hc.sh, if_pos h, h1, h2, h4]
  · rcases List.mem_append.1 hk with h' | h'
    · exact ht.k0 k h'
    · exact hK2 k h'
  · rcases List.mem_append.1 hv with h' | h'
    · exact ht.v0 v h'
    · exact hV2 v h'
  · rw [← h4, ← h1, ← h2]
theorem tSame_eq {a b : List Att} (ha : a.length ≤ 100000) : table_Same a b = some (decide (a = b)) := by
  unfold table_Same slices_Equal_table_Attr_table_Attr
  by_cases he : a.length = b.length
  · rw [show (!decide ((a.length : Int) = (b.length : Int))) = false by simp [he], if_neg (by decide)]
    unfold slices_Equal_table_Attr_table_Attr_l1
    have := loopO_all (body := fun s => slices_Equal_table_Attr_table_Attr_b1 a b s) (fun k => (k : Int)) a.length (fun k => a.getD k dA = b.getD k dA) true false (fun k hk ho => by
      unfold slices_Equal_table_Attr_table_Attr_b1
      rw [dlt hk, if_pos rfl, ix_getD dA hk, bind_some', ix_getD dA (by omega), bind_some', decide_eq_true ho, Bool.not_true, if_neg (by decide), ad_one (by omega)]) (fun k hk ho => by
      unfold slices_Equal_table_Attr_table_Attr_b1
      rw [dlt hk, if_pos rfl, ix_getD dA hk, bind_some', ix_getD dA (by omega), bind_some', decide_eq_false ho, Bool.not_false, if_pos rfl]; rfl) (by
      unfold slices_Equal_table_Attr_table_Attr_b1
      rw [dnlt (Nat.lt_irrefl _), if_neg (by decide)]; rfl)
    rw [show (0 : Int) = ((0 : Nat) : Int) from rfl, this, bind_some']
    congr 1
    by_cases hab : a = b
    · rw [decide_eq_true hab, if_pos (fun k _ => by rw [hab])]
    · rw [decide_eq_false hab, if_neg (fun h => hab (ext_getD dA he h))]
  · rw [show (!decide ((a.length : Int) = (b.length : Int))) = true by simp; omega, if_pos rfl, bind_some', decide_eq_false (fun e => he (by rw [e]))]
abbrev GS := (List ByteArray) × (List Val) × (List (List Int)) × (List (List Att)) × Int
structure GI (s : GS) : Prop where
  i0 : 0 ≤ s.2.2.2.2 ∧ s.2.2.2.2 ≤ 10
  lk : (s.1.length : Int) ≤ 10 * s.2.2.2.2
  lv : (s.2.1.length : Int) ≤ 10 * s.2.2.2.2
  ln : s.2.2.1.length = s.2.2.2.1.length
  li : (s.2.2.1.length : Int) ≤ s.2.2.2.2
  ok : TOk s.1 s.2.1
  told : ∀ k, k < s.2.2.1.length → Told s.1 s.2.1 (s.2.2.1.getD k []) (s.2.2.2.1.getD k [])
end Go.Proofs.Ytpbhdblkjabdlaa.Pl
