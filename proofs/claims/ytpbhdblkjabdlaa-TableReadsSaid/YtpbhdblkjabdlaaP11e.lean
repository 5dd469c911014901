import Derived.Test.YtpbhdblkjabdlaaP11d
namespace Go.Proofs.Ytpbhdblkjabdlaa.Pl
set_option maxRecDepth 4000
section
variable {α : Type} [DecidableEq α]
end
def tagsOf (K : List ByteArray) (V : List Val) (l : List Att) : List Int := l.flatMap fun a => [(fnd a.1 K : Int), (fnd a.2 V : Int)]
theorem tagsOf_len (K : List ByteArray) (V : List Val) : ∀ l : List Att, (tagsOf K V l).length = 2 * l.length
  | [] => rfl
  | a :: l => by
    unfold tagsOf
    rw [List.flatMap_cons, List.length_append]
    have := tagsOf_len K V l
    unfold tagsOf at this
    simp only [List.length_cons, List.length_nil, this]; omega
theorem tagsOf_pre {K K2 : List ByteArray} {V V2 : List Val} : ∀ {l : List Att}, (∀ a ∈ l, a.1 ∈ K ∧ a.2 ∈ V) → tagsOf (K ++ K2) (V ++ V2) l = tagsOf K V l
  | [], _ => rfl
  | a :: l, h => by
    unfold tagsOf
    rw [List.flatMap_cons, List.flatMap_cons, fnd_pre _ _ _ (h a (by simp)).1, fnd_pre _ _ _ (h a (by simp)).2]
    have := tagsOf_pre (K2 := K2) (V2 := V2) (l := l) (fun b hb => h b (by simp [hb]))
    unfold tagsOf at this
    rw [this]
theorem hasK_false {x : ByteArray} {out : List Att} (h : x ∉ out.map (·.1)) : hasK x out = false := by
  unfold hasK
  rw [List.any_eq_false]
  intro p hp e
  exact h (List.mem_map.2 ⟨p, hp, by simpa using e⟩)
theorem atS_tags {K : List ByteArray} {V : List Val} : ∀ (l out : List Att), (∀ a ∈ l, a.1 ∈ K ∧ a.2 ∈ V) → ((out ++ l).map (·.1)).Nodup → atS K V (tagsOf K V l) out = (out ++ l, 0)
  | [], out, _, _ => by unfold tagsOf; simp [atS]
  | a :: l, out, h, hn => by
    have hk := (fnd_lt a.1 K).2 (h a (by simp)).1
    have hv := (fnd_lt a.2 V).2 (h a (by simp)).2
    unfold tagsOf
    rw [List.flatMap_cons, List.cons_append, List.cons_append, List.nil_append, atS, if_neg (by omega), Int.toNat_natCast, Int.toNat_natCast, fnd_at _ _ _ (h a (by simp)).1, fnd_at _ _ _ (h a (by simp)).2]
    have hh : hasK a.1 out = false := hasK_false fun hm => by
      rw [List.map_append, List.nodup_append] at hn
      exact hn.2.2 _ hm a.1 (by simp) rfl
    rw [hh, if_neg (by decide)]
    have := atS_tags l (out ++ [(a.1, a.2)]) (fun b hb => h b (by simp [hb])) (by rw [List.append_assoc]; exact hn)
    unfold tagsOf at this
    rw [this, List.append_assoc]; rfl
structure Told (K : List ByteArray) (V : List Val) (tags : List Int) (l : List Att) : Prop where
  tg : tags = tagsOf K V l
  mem : ∀ a ∈ l, a.1 ∈ K ∧ a.2 ∈ V
  few : l.length ≤ 8
  once : (l.map (·.1)).Nodup
theorem Told.attr {K : List ByteArray} {V : List Val} {tags : List Int} {l : List Att} (h : Told K V tags l) : attr K V tags = (l, 0) := by
  unfold Pl.attr
  rw [h.tg, tagsOf_len, if_neg (by omega), if_neg (by have := h.few; omega), atS_tags l [] h.mem (by simpa using h.once)]; rfl
theorem Told.more {K K2 : List ByteArray} {V V2 : List Val} {tags : List Int} {l : List Att} (h : Told K V tags l) : Told (K ++ K2) (V ++ V2) tags l :=
  ⟨by rw [h.tg, tagsOf_pre h.mem], fun a ha => ⟨List.mem_append_left _ (h.mem a ha).1, List.mem_append_left _ (h.mem a ha).2⟩, h.few, h.once⟩
theorem Told.len {K : List ByteArray} {V : List Val} {tags : List Int} {l : List Att} (h : Told K V tags l) : tags.length ≤ 16 := by
  rw [h.tg, tagsOf_len]; have := h.few; omega
structure TOk (K : List ByteArray) (V : List Val) : Prop where
  k0 : ∀ k ∈ K, kchk k = 0 ∧ Sh k
  v0 : ∀ v ∈ V, vchk v = 0 ∧ ShV v
  kn : K.Nodup
  vn : V.Nodup
theorem TOk.chk {K : List ByteArray} {V : List Val} (h : TOk K V) : tchk K V = 0 := by
  unfold tchk
  have h1 : chkL id kchk K [] = 0 := (chkL_zero K []).2 ⟨fun k hk => (h.k0 k hk).1, by simpa using h.kn, by simp⟩
  have h2 : chkL id vchk V [] = 0 := (chkL_zero V []).2 ⟨fun k hk => (h.v0 k hk).1, by simpa using h.vn, by simp⟩
  rw [h1, h2]; rfl
theorem tSame_eq {a b : List Att} (ha : a.length ≤ 100000) : table_Same a b = some (decide (a = b)) := by
  unfold table_Same slices_Equal_table_Attr_table_Attr
  by_cases he : a.length = b.length
  · rw [show (!decide ((a.length : Int) = (b.length : Int))) = false by simp [he], if_neg (by decide)]
    unfold slices_Equal_table_Attr_table_Attr_l1
    have := loopO_all (body := fun s => slices_Equal_table_Attr_table_Attr_b1 a b s) (fun k => (k : Int)) a.length (fun k => a.getD k dA = b.getD k dA) true false (fun k hk ho => by
      unfold slices_Equal_table_Attr_table_Attr_b1
      rw [dlt hk, if_pos rfl, ix_getD dA hk, bind_some', ix_getD dA (by omega), bind_some', decide_eq_true ho, Bool.not_true, if_neg (by decide), ad_one (by omega)]) (fun k hk ho => by
      unfold slices_Equal_table_Attr_table_Attr_b1
      rw [dlt hk, if_pos rfl, ix_getD dA hk, bind_some', ix_getD dA (by omega), bind_some', decide_eq_false ho, Bool.not_false, if_pos rfl]; rfl) (by
      unfold slices_Equal_table_Attr_table_Attr_b1
      rw [dnlt (Nat.lt_irrefl _), if_neg (by decide)]; rfl)
    rw [show (0 : Int) = ((0 : Nat) : Int) from rfl, this, bind_some']
    congr 1
    by_cases hab : a = b
    · rw [decide_eq_true hab, if_pos (fun k _ => by rw [hab])]
    · rw [decide_eq_false hab, if_neg (fun h => hab (ext_getD dA he h))]
  · rw [show (!decide ((a.length : Int) = (b.length : Int))) = true by simp; omega, if_pos rfl, bind_some', decide_eq_false (fun e => he (by rw [e]))]
abbrev GS := (List ByteArray) × (List Val) × (List (List Int)) × (List (List Att)) × Int
structure GI (s : GS) : Prop where
  i0 : 0 ≤ s.2.2.2.2 ∧ s.2.2.2.2 ≤ 10
  lk : (s.1.length : Int) ≤ 10 * s.2.2.2.2
  lv : (s.2.1.length : Int) ≤ 10 * s.2.2.2.2
  ln : s.2.2.1.length = s.2.2.2.1.length
  li : (s.2.2.1.length : Int) ≤ s.2.2.2.2
  ok : TOk s.1 s.2.1
  told : ∀ k, k < s.2.2.1.length → Told s.1 s.2.1 (s.2.2.1.getD k []) (s.2.2.2.1.getD k [])
end Go.Proofs.Ytpbhdblkjabdlaa.Pl
