import Derived.Test.YtpbhdblkjabdlaaP11e
namespace Go.Proofs.Ytpbhdblkjabdlaa.Pl
set_option maxRecDepth 4000
section
variable {α κ : Type} [DecidableEq κ] {key : α → κ} {bad : α → Int}
theorem chkL_snoc {x : α} (hb : bad x = 0) : ∀ (l : List α) (s : List κ), key x ∉ l.map key → key x ∉ s → chkL key bad (l ++ [x]) s = chkL key bad l s
  | [], s, _, hs => by
    show (if bad x ≠ 0 then bad x else if key x ∈ s then 8 else 0) = 0
    rw [if_neg (fun h => h hb), if_neg hs]
  | a :: l, s, hl, hs => by
    rw [List.cons_append, chkL, chkL]
    have hl' : key x ∉ l.map key := fun h => hl (by rw [List.map_cons]; exact List.mem_cons_of_mem _ h)
    have hs' : key x ∉ key a :: s := fun h => by
      rcases List.mem_cons.1 h with h' | h'
      · exact hl (by rw [List.map_cons, h']; exact List.mem_cons_self ..)
      · exact hs h'
    rw [chkL_snoc hb l _ hl' hs']
def chkB (key : α → κ) (bad : α → Int) (d : α) (l : List α) (e : Int) (i : Nat) : Option (Nat ⊕ Int) :=
  if i < l.length then (if bad (l.getD i d) ≠ 0 then some (.inr (bad (l.getD i d))) else if key (l.getD i d) ∈ (l.take i).map key then some (.inr 8) else some (.inl (i + 1))) else some (.inr e)
theorem chkB_bad {d : α} {l : List α} {e : Int} {i : Nat} (hi : i < l.length) (hb : bad (l.getD i d) ≠ 0) : chkB key bad d l e i = some (.inr (bad (l.getD i d))) := by unfold chkB; rw [if_pos hi, if_pos hb]
theorem chkB_twice {d : α} {l : List α} {e : Int} {i : Nat} (hi : i < l.length) (hb : bad (l.getD i d) = 0) (hm : key (l.getD i d) ∈ (l.take i).map key) : chkB key bad d l e i = some (.inr 8) := by unfold chkB; rw [if_pos hi, if_neg (fun h => h hb), if_pos hm]
theorem chkB_go {d : α} {l : List α} {e : Int} {i : Nat} (hi : i < l.length) (hb : bad (l.getD i d) = 0) (hm : key (l.getD i d) ∉ (l.take i).map key) : chkB key bad d l e i = some (.inl (i + 1)) := by unfold chkB; rw [if_pos hi, if_neg (fun h => h hb), if_neg hm]
theorem chkB_end {d : α} {l : List α} {e : Int} {i : Nat} (hi : ¬ i < l.length) : chkB key bad d l e i = some (.inr e) := by unfold chkB; rw [if_neg hi]
theorem chkB_loop (d : α) (l : List α) (e : Int) : ∀ (n i : Nat), l.length - i = n → i ≤ l.length → loopO (chkB key bad d l e) i = some (if chkL key bad (l.drop i) ((l.take i).map key) ≠ 0 then chkL key bad (l.drop i) ((l.take i).map key) else e) := by
  intro n
  induction n with
  | zero =>
    intro i hn hi
    have : i = l.length := by omega
    subst this
    rw [loopO_inr (chkB_end (Nat.lt_irrefl _)), List.drop_length, chkL, if_neg (fun h => h rfl)]
  | succ n ih =>
    intro i hn hi
    have hlt : i < l.length := by omega
    have ht : (l.take (i + 1)).map key = (l.take i).map key ++ [key (l.getD i d)] := by rw [snoc_take d hlt, List.map_append]; rfl
    rw [drop_cons d hlt, chkL]
    by_cases h3 : bad (l.getD i d) = 0
    · by_cases h4 : key (l.getD i d) ∈ (l.take i).map key
      · rw [loopO_inr (chkB_twice hlt h3 h4), if_neg (show ¬ bad (l.getD i d) ≠ 0 from fun h => h h3), if_pos h4]; rfl
      · rw [loopO_inl (chkB_go hlt h3 h4), ih (i + 1) (by omega) (by omega), if_neg (show ¬ bad (l.getD i d) ≠ 0 from fun h => h h3), if_neg h4]
        have : chkL key bad (l.drop (i + 1)) ((l.take (i + 1)).map key) = chkL key bad (l.drop (i + 1)) (key (l.getD i d) :: (l.take i).map key) := chkL_congr _ _ _ (fun x => by rw [ht]; simp [or_comm])
        rw [this]
    · rw [loopO_inr (chkB_bad hlt h3), if_pos (show bad (l.getD i d) ≠ 0 from h3), if_pos h3]
theorem chkB_all (d : α) (l : List α) (e : Int) : loopO (chkB key bad d l e) 0 = some (if chkL key bad l [] ≠ 0 then chkL key bad l [] else e) := by
  have := chkB_loop (key := key) (bad := bad) d l e l.length 0 (by omega) (by omega)
  rwa [List.drop_zero, List.take_zero, List.map_nil] at this
end
theorem loopO_map {S S' R : Type} {f : S → Option (S ⊕ R)} {g : S' → Option (S' ⊕ R)} (m : S → S') (h : ∀ s, g (m s) = (f s).map (Sum.map m id)) : ∀ s, loopO g (m s) = loopO f s := by
  intro s
  have key : ∀ n s, iter g n (m s) = iter f n s := by
    intro n
    induction n with
    | zero => intro s; rfl
    | succ n ih =>
      intro s
      unfold iter
      rw [h s]
      cases f s with
      | none => rfl
      | some z =>
        cases z with
        | inl s' => exact ih s'
        | inr r => rfl
  cases hf : loopO f s with
  | some r =>
    obtain ⟨n, hn⟩ := loopO_some.1 hf
    exact loopO_some.2 ⟨n, by rw [key, hn]⟩
  | none =>
    cases hg : loopO g (m s) with
    | none => rfl
    | some r =>
      obtain ⟨n, hn⟩ := loopO_some.1 hg
      rw [key] at hn
      rw [loopO_some.2 ⟨n, hn⟩] at hf; cases hf
theorem Key_eq {l : List ByteArray} (hl : l.length ≤ 100000) (x : ByteArray) : ref11_Key l x = some (fnd x l : Int) := by
  unfold ref11_Key ref11_Key_l1
  exact fnd_loop (body := fun s => ref11_Key_b1 l x s) x ByteArray.empty (fun i => (i : Int)) (fun i => (i : Int)) l (fun i hi hne => by
    unfold ref11_Key_b1
    rw [dlt hi, gd_true, ix_getD ByteArray.empty hi, bind_some', eqS_eq, decide_eq_false hne, bind_some', ad_one (by omega)]; rfl) (fun i hi he => by
    unfold ref11_Key_b1
    rw [dlt hi, gd_true, ix_getD ByteArray.empty hi, bind_some', eqS_eq, decide_eq_true he, bind_some']; rfl) (by
    unfold ref11_Key_b1
    rw [dnlt (Nat.lt_irrefl _), gd_false, bind_some', bind_some']; rfl)
theorem Value_eq {l : List Val} (hl : l.length ≤ 100000) (x : Val) : ref11_Value l x = some (fnd x l : Int) := by
  unfold ref11_Value ref11_Value_l1
  exact fnd_loop (body := fun s => ref11_Value_b1 l x s) x dV (fun i => (i : Int)) (fun i => (i : Int)) l (fun i hi hne => by
    unfold ref11_Value_b1
    rw [dlt hi, gd_true, ix_getD dV hi, bind_some', decide_eq_false hne, bind_some', ad_one (by omega)]; rfl) (fun i hi he => by
    unfold ref11_Value_b1
    rw [dlt hi, gd_true, ix_getD dV hi, bind_some', decide_eq_true he, bind_some']; rfl) (by
    unfold ref11_Value_b1
    rw [dnlt (Nat.lt_irrefl _), gd_false, bind_some', bind_some']; rfl)
section
variable {α : Type} [DecidableEq α]
theorem fnd_take (d : α) {l : List α} {i : Nat} (hi : i < l.length) : fnd (l.getD i d) l < i ↔ l.getD i d ∈ l.take i := by
  constructor
  · intro h
    have h1 : fnd (l.getD i d) l < l.length := by omega
    have h2 := fnd_at (l.getD i d) d l ((fnd_lt _ l).1 h1)
    have h3 : (l.take i).getD (fnd (l.getD i d) l) d = l.getD i d := by rw [getD_take h, h2]
    rw [← h3]
    exact getD_mem (by rw [List.length_take]; omega)
  · intro h
    obtain ⟨j, hj, e⟩ := mem_getD (d := d) h
    rw [List.length_take] at hj
    rw [getD_take (by omega)] at e
    rcases Nat.lt_or_ge (fnd (l.getD i d) l) i with h' | h'
    · exact h'
    · exact (fnd_before (l.getD i d) d l j (by omega) e).elim
end
theorem Wrong_eq {K : List ByteArray} {V : List Val} (hK : K.length ≤ 100000) (hV : V.length ≤ 100000) (hs : ∀ a ∈ K, Sh a) (hv : ∀ a ∈ V, ShV a) : ref11_Wrong (K, V) = some (tchk K V) := by
  have h2 : ref11_Wrong_l2 (K, V) 0 = some (chkL id vchk V []) := by
    unfold ref11_Wrong_l2
    have := chkB_all (key := (id : Val → Val)) (bad := vchk) dV V 0
    have e0 : (if chkL id vchk V [] ≠ 0 then chkL id vchk V [] else 0) = chkL id vchk V [] := by split <;> omega
    rw [e0] at this
    rw [← this, show (0 : Int) = ((0 : Nat) : Int) from rfl]
    refine loopO_map (g := fun s => ref11_Wrong_b2 (K, V) s) (fun i : Nat => (i : Int)) (fun i => ?_) 0
    unfold ref11_Wrong_b2
    dsimp only
    by_cases hi : i < V.length
    · rw [dlt hi, if_pos rfl, ix_getD dV hi, bind_some', refvCheck_eq (hv _ (getD_mem hi)), bind_some']
      by_cases hb : vchk (V.getD i dV) = 0
      · rw [decide_eq_true hb, Bool.not_true, if_neg (by decide), bind_some', Value_eq hV, bind_some']
        by_cases hm : V.getD i dV ∈ V.take i
        · have := (fnd_take dV hi).2 hm
          rw [chkB_twice hi hb (by rw [List.map_id]; exact hm), decide_eq_true (by omega), if_pos rfl]; rfl
        · have : ¬ fnd (V.getD i dV) V < i := fun h => hm ((fnd_take dV hi).1 h)
          rw [chkB_go hi hb (by rw [List.map_id]; exact hm), decide_eq_false (by omega), if_neg (by decide), ad_one (by omega)]; rfl
      · rw [chkB_bad hi hb, decide_eq_false hb, Bool.not_false, if_pos rfl]; rfl
    · rw [chkB_end hi, dnlt hi, if_neg (by decide)]; rfl
  unfold ref11_Wrong ref11_Wrong_l1 tchk
  rw [← chkB_all (key := (id : ByteArray → ByteArray)) (bad := kchk) ByteArray.empty K (chkL id vchk V []), show (0 : Int) = ((0 : Nat) : Int) from rfl]
  refine loopO_map (g := fun s => ref11_Wrong_b1 (K, V) s) (fun i : Nat => (i : Int)) (fun i => ?_) 0
  unfold ref11_Wrong_b1
  dsimp only
  by_cases hi : i < K.length
  · rw [dlt hi, if_pos rfl, ix_getD ByteArray.empty hi, bind_some', refName_eq (hs _ (getD_mem hi)), bind_some']
    cases hn : nmB (K.getD i ByteArray.empty) with
    | false =>
      have hb : kchk (K.getD i ByteArray.empty) = 13 := by unfold kchk; rw [hn]; rfl
      rw [chkB_bad hi (by rw [hb]; decide), hb]; rfl
    | true =>
      have hb : kchk (K.getD i ByteArray.empty) = 0 := by unfold kchk; rw [hn]; rfl
      rw [Bool.not_true, if_neg (show ¬ false = true by decide), bind_some', Key_eq hK, bind_some']
      by_cases hm : K.getD i ByteArray.empty ∈ K.take i
      · have := (fnd_take ByteArray.empty hi).2 hm
        rw [chkB_twice hi hb (by rw [List.map_id]; exact hm), decide_eq_true (by omega), if_pos rfl]; rfl
      · have : ¬ fnd (K.getD i ByteArray.empty) K < i := fun h => hm ((fnd_take ByteArray.empty hi).1 h)
        rw [chkB_go hi hb (by rw [List.map_id]; exact hm), decide_eq_false (by omega), if_neg (by decide), ad_one (by omega)]; rfl
  · rw [chkB_end hi, dnlt hi, if_neg (by decide), h2]; rfl
theorem refCheck_eq {l : List Att} (hl : l.length ≤ 100000) (hs : ∀ a ∈ l, ShA a) : ref11_Check l = some (lchk l) := by
  unfold ref11_Check lchk
  by_cases h : 8 < l.length
  · rw [decide_eq_true (by omega), if_pos rfl, if_pos h]
  rw [decide_eq_false (by omega), if_neg (by decide), if_neg h]
  unfold ref11_Check_l1
  have e0 : (if chkL (fun a : Att => a.1) achk l [] ≠ 0 then chkL (fun a : Att => a.1) achk l [] else 0) = chkL (fun a : Att => a.1) achk l [] := by split <;> omega
  have := chkB_all (key := fun a : Att => a.1) (bad := achk) dA l 0
  rw [e0] at this
  rw [← this, show (0 : Int) = ((0 : Nat) : Int) from rfl]
  refine loopO_map (g := fun s => ref11_Check_b1 l s) (fun i : Nat => (i : Int)) (fun i => ?_) 0
  unfold ref11_Check_b1
  by_cases hi : i < l.length
  · have ha := hs _ (getD_mem (d := dA) hi)
    rw [dlt hi, if_pos rfl, ix_getD dA hi, bind_some', refName_eq ha.1, bind_some']
    cases hn : nmB (l.getD i dA).1 with
    | false =>
      have hb : achk (l.getD i dA) = 13 := by unfold achk; rw [hn]; rfl
      rw [chkB_bad hi (by rw [hb]; decide), hb]; rfl
    | true =>
      have he : achk (l.getD i dA) = vchk (l.getD i dA).2 := by unfold achk; rw [hn]; rfl
      rw [Bool.not_true, if_neg (show ¬ false = true by decide), bind_some', refvCheck_eq ha.2, bind_some']
      by_cases hb : vchk (l.getD i dA).2 = 0
      · rw [decide_eq_true hb, Bool.not_true, if_neg (by decide)]
        unfold ref11_Check_l2
        have := loopO_all (body := fun s => ref11_Check_b2 l (i : Int) s) (fun k => (k : Int)) i (fun k => (l.getD k dA).1 ≠ (l.getD i dA).1) (Sum.inl (((i + 1 : Nat)) : Int)) (Sum.inr (8 : Int)) (fun k hk hne => by
          unfold ref11_Check_b2
          rw [dlt hk, if_pos rfl, ix_getD dA (by omega), bind_some', ix_getD dA hi, bind_some', eqS_eq, decide_eq_false hne, if_neg (by decide), ad_one (by omega)]) (fun k hk he => by
          unfold ref11_Check_b2
          rw [dlt hk, if_pos rfl, ix_getD dA (by omega), bind_some', ix_getD dA hi, bind_some', eqS_eq, decide_eq_true (Classical.not_not.1 he), if_pos rfl]; rfl) (by
          unfold ref11_Check_b2
          rw [dnlt (Nat.lt_irrefl _), if_neg (by decide), ad_one (by omega)]; rfl)
        refine (show _ = _ from this).trans ?_
        have hk : (∀ k, k < i → (l.getD k dA).1 ≠ (l.getD i dA).1) ↔ (l.getD i dA).1 ∉ (l.take i).map (fun a : Att => a.1) := by
          constructor
          · intro h hm
            obtain ⟨a, ha, e⟩ := List.mem_map.1 hm
            obtain ⟨j, hj, rfl⟩ := mem_getD (d := dA) ha
            rw [List.length_take] at hj
            rw [getD_take (by omega)] at e
            exact h j (by omega) e
          · intro h k hk e
            refine h (List.mem_map.2 ⟨l.getD k dA, ?_, e⟩)
            rw [← getD_take (n := i) hk]
            exact getD_mem (by rw [List.length_take]; omega)
        by_cases hm : ∀ k, k < i → (l.getD k dA).1 ≠ (l.getD i dA).1
        · rw [if_pos hm, chkB_go hi (he.trans hb) (hk.1 hm)]; rfl
        · rw [if_neg hm, chkB_twice hi (he.trans hb) (Classical.not_not.1 fun h => hm (hk.2 h))]; rfl
      · rw [chkB_bad hi (by rw [he]; exact hb), he, decide_eq_false hb, Bool.not_false, if_pos rfl]; rfl
  · rw [chkB_end hi, dnlt hi, if_neg (by decide)]; rfl
theorem Ofs_eq {l : List Att} (hl : l.length ≤ 100000) : law11_Ofs l = some l := by
  unfold law11_Ofs law11_Ofs_l1
  have := loopO_nat (body := fun s => law11_Ofs_b1 l s.1 s.2) (fun k => (l.take k, (k : Int))) l.length (l.take l.length) (fun k hk => by
    dsimp only
    unfold law11_Ofs_b1
    rw [dlt hk, if_pos rfl, ix_getD dA hk, bind_some', bind_some', app_le (by simp only [List.length_cons, List.length_nil, List.length_take]; omega), bind_some', ad_one (by omega), snoc_take dA hk]) (by
    dsimp only
    unfold law11_Ofs_b1
    rw [dnlt (Nat.lt_irrefl _), if_neg (by decide)]; rfl)
  rw [List.take_length] at this
  exact this
theorem rAdd_eq {K : List ByteArray} {V : List Val} {l : List Att} (hK : K.length ≤ 1000) (hV : V.length ≤ 1000) (hl : l.length ≤ 1000) : ref11_Add (K, V) l = some (((addT l K V []).1, (addT l K V []).2.1), (addT l K V []).2.2) := by
  unfold ref11_Add ref11_Add_l1
  have : ∀ (n i : Nat) (K : List ByteArray) (V : List Val) (o : List Int), l.length - i = n → i ≤ l.length → K.length + n ≤ 10000 → V.length + n ≤ 10000 → o.length + 2 * n ≤ 10000 →
      loopO (fun s => ref11_Add_b1 l s.1 s.2.1 s.2.2.1 s.2.2.2) (K, V, o, (i : Int)) = some (((addT (l.drop i) K V o).1, (addT (l.drop i) K V o).2.1), (addT (l.drop i) K V o).2.2) := by
    intro n
    induction n with
    | zero =>
      intro i K V o hn hi h1 h2 h3
      have : i = l.length := by omega
      subst this
      refine loopO_inr ?_
      dsimp only
      unfold ref11_Add_b1
      rw [dnlt (Nat.lt_irrefl _), if_neg (by decide), List.drop_length]; rfl
    | succ n ih =>
      intro i K V o hn hi h1 h2 h3
      have hlt : i < l.length := by omega
      have hk2 : ∀ K', ref11_Add_k2 l V o (i : Int) (fnd (l.getD i dA).1 K : Int) (fnd (l.getD i dA).2 V : Int) K' = some (.inl (K', adK' V (l.getD i dA).2, o ++ [(fnd (l.getD i dA).1 K : Int), (fnd (l.getD i dA).2 V : Int)], ((i + 1 : Nat) : Int))) := fun K' => by
        unfold ref11_Add_k2 ref11_Add_k3 adK'
        have hle := fnd_le (l.getD i dA).2 V
        by_cases hm : fnd (l.getD i dA).2 V < V.length
        · rw [if_pos hm, decide_eq_false (by omega), if_neg (by decide), app_le (by simp only [List.length_cons, List.length_nil]; omega), bind_some', ad_one (by omega)]
        · rw [if_neg hm, decide_eq_true (by omega), if_pos rfl, app_le (by simp only [List.length_nil]; omega), bind_some', ix_getD dA hlt, bind_some', List.nil_append, app_le (by simp only [List.length_cons, List.length_nil]; omega), bind_some', app_le (by simp only [List.length_cons, List.length_nil]; omega), bind_some', ad_one (by omega)]
      have e : ref11_Add_b1 l K V o (i : Int) = some (.inl (adK' K (l.getD i dA).1, adK' V (l.getD i dA).2, o ++ [(fnd (l.getD i dA).1 K : Int), (fnd (l.getD i dA).2 V : Int)], ((i + 1 : Nat) : Int))) := by
        unfold ref11_Add_b1
        have hle := fnd_le (l.getD i dA).1 K
        rw [dlt hlt, if_pos rfl, ix_getD dA hlt, bind_some', Key_eq (by omega), bind_some', bind_some', Value_eq (by omega), bind_some']
        by_cases hm : fnd (l.getD i dA).1 K < K.length
        · rw [decide_eq_false (by omega), if_neg (by decide), hk2, show adK' K (l.getD i dA).1 = K from if_pos hm]
        · rw [decide_eq_true (by omega), if_pos rfl, app_le (by simp only [List.length_nil]; omega), bind_some', bind_some', List.nil_append, app_le (by simp only [List.length_cons, List.length_nil]; omega), bind_some', hk2, show adK' K (l.getD i dA).1 = K ++ [(l.getD i dA).1] from if_neg hm]
      rw [loopO_inl e, drop_cons dA hlt, addT]
      refine ih (i + 1) _ _ _ (by omega) (by omega) ?_ ?_ ?_
      · have := (adK_len K (l.getD i dA).1).2; omega
      · have := (adK_len V (l.getD i dA).2).2; omega
      · simp only [List.length_append, List.length_cons, List.length_nil]; omega
  exact this l.length 0 K V [] (by omega) (by omega) (by omega) (by omega) (by simp only [List.length_nil]; omega)
theorem same_self {K : List ByteArray} {V : List Val} (hK : K.length ≤ 100000) (hV : V.length ≤ 100000) : law11_same (K, V) (K, V) = some true := by
  unfold law11_same
  dsimp only
  rw [decide_eq_true rfl, decide_eq_true rfl, Bool.not_true, Bool.or_false, bind_some', if_neg (by decide)]
  unfold law11_same_l1
  refine loopO_nat (body := fun s => law11_same_b1 (K, V) (K, V) s) (fun k => (k : Int)) K.length true (fun k hk => by
    unfold law11_same_b1
    dsimp only
    rw [dlt hk, if_pos rfl, ix_getD ByteArray.empty hk, bind_some', bind_some', eqS_eq, decide_eq_true rfl, Bool.not_true, if_neg (by decide), ad_one (by omega)]) ?_
  unfold law11_same_b1
  dsimp only
  rw [dnlt (Nat.lt_irrefl _), if_neg (by decide)]
  unfold law11_same_l2
  have := loopO_nat (body := fun s => law11_same_b2 (K, V) (K, V) s) (fun k => (k : Int)) V.length true (fun k hk => by
    unfold law11_same_b2
    dsimp only
    rw [dlt hk, if_pos rfl, ix_getD dV hk, bind_some', bind_some', decide_eq_true rfl, Bool.not_true, if_neg (by decide), ad_one (by omega)]) (by
    unfold law11_same_b2
    dsimp only
    rw [dnlt (Nat.lt_irrefl _), if_neg (by decide)]; rfl)
  rw [show (0 : Int) = ((0 : Nat) : Int) from rfl, this]; rfl
theorem Table_eq (t : List ByteArray × List Val) : ∃ K V, law11_Table t = some ((K, V), (K, V)) ∧ K.length ≤ 20 ∧ V.length ≤ 20 ∧ (∀ k ∈ K, Sh k) ∧ (∀ v ∈ V, ShV v) := by
  obtain ⟨K0, V0⟩ := t
  have h2 : ∀ K : List ByteArray, ∃ V, law11_Table_l2 (K0, V0) K K ([], [], 0) = some ((K, V), (K, V)) ∧ V.length ≤ 20 ∧ (∀ v ∈ V, ShV v) := fun K => by
    unfold law11_Table_l2
    have := loopO_rule (body := fun s => law11_Table_b2 (K0, V0) K K s.1 s.2.1 s.2.2) (fun s => s.1 = s.2.1 ∧ 0 ≤ s.2.2 ∧ s.2.2 ≤ 20 ∧ (s.1.length : Int) = s.2.2 ∧ ∀ v ∈ s.1, ShV v) (fun s => (20 - s.2.2).toNat) (fun r => ∃ V, r = ((K, V), (K, V)) ∧ V.length ≤ 20 ∧ ∀ v ∈ V, ShV v) (fun s ⟨h1, h2, h3, h4, h5⟩ => by
      obtain ⟨V, V', i⟩ := s
      dsimp only at h1 h2 h3 h4 h5 ⊢
      subst h1
      unfold law11_Table_b2
      by_cases h : i < (V0.length : Int) ∧ i < 20
      · left
        obtain ⟨r, hr, hz⟩ := cut10_eq (V0.getD i.toNat dV)
        rw [show (decide (i < (V0.length : Int)) && decide (i < 20)) = true by simp [h], bind_some', if_pos rfl, ix_int dV ⟨h2, h.1⟩, bind_some', hr, bind_some', app_le (by simp only [List.length_cons, List.length_nil]; omega), bind_some', bind_some', ad_in (by omega)]
        refine ⟨_, rfl, ⟨rfl, by dsimp only; omega, by dsimp only; omega, by simp only [List.length_append, List.length_cons, List.length_nil]; omega, fun v hv => ?_⟩, by dsimp only; omega⟩
        rcases List.mem_append.1 hv with h' | h'
        · exact h5 v h'
        · rw [List.mem_singleton] at h'
          subst h'
          unfold ShV Sh; omega
      · right
        rw [show (decide (i < (V0.length : Int)) && decide (i < 20)) = false by rw [Bool.and_eq_false_iff, decide_eq_false_iff_not, decide_eq_false_iff_not]; omega, bind_some', if_neg (by decide)]
        exact ⟨_, rfl, V, rfl, by omega, h5⟩) (s := (([] : List Val), ([] : List Val), (0 : Int))) ⟨rfl, by decide, by decide, rfl, by simp⟩
    obtain ⟨r, hr, V, rfl, hV⟩ := this
    exact ⟨V, hr, hV⟩
  unfold law11_Table law11_Table_l1
  have := loopO_rule (body := fun s => law11_Table_b1 (K0, V0) s.1 s.2.1 s.2.2) (fun s => s.1 = s.2.1 ∧ 0 ≤ s.2.2 ∧ s.2.2 ≤ 20 ∧ (s.1.length : Int) = s.2.2 ∧ ∀ v ∈ s.1, Sh v) (fun s => (20 - s.2.2).toNat) (fun r => ∃ K V, r = ((K, V), (K, V)) ∧ K.length ≤ 20 ∧ V.length ≤ 20 ∧ (∀ k ∈ K, Sh k) ∧ ∀ v ∈ V, ShV v) (fun s ⟨h1, h3, h4, h5, h6⟩ => by
    obtain ⟨K, K', i⟩ := s
    dsimp only at h1 h3 h4 h5 h6 ⊢
    subst h1
    unfold law11_Table_b1
    by_cases h : i < (K0.length : Int) ∧ i < 20
    · left
      rw [show (decide (i < (K0.length : Int)) && decide (i < 20)) = true by simp [h], bind_some', if_pos rfl, ix_int ByteArray.empty ⟨h3, h.1⟩, bind_some', bind_some', cutS_mn, bind_some', app_le (by simp only [List.length_cons, List.length_nil]; omega), bind_some', bind_some', ad_in (by omega)]
      refine ⟨_, rfl, ⟨rfl, by dsimp only; omega, by dsimp only; omega, by simp only [List.length_append, List.length_cons, List.length_nil]; omega, fun v hv => ?_⟩, by dsimp only; omega⟩
      rcases List.mem_append.1 hv with h' | h'
      · exact h6 v h'
      · rw [List.mem_singleton] at h'
        subst h'
        unfold Sh; rw [ByteArray.size_extract]; omega
    · right
      rw [show (decide (i < (K0.length : Int)) && decide (i < 20)) = false by rw [Bool.and_eq_false_iff, decide_eq_false_iff_not, decide_eq_false_iff_not]; omega, bind_some', if_neg (by decide)]
      obtain ⟨V, hV, hV2, hV3⟩ := h2 K
      rw [hV]
      exact ⟨_, rfl, K, V, rfl, by omega, hV2, h6, hV3⟩) (s := (([] : List ByteArray), ([] : List ByteArray), (0 : Int))) ⟨rfl, by decide, by decide, rfl, by simp⟩
  obtain ⟨r, hr, K, V, rfl, h⟩ := this
  exact ⟨K, V, hr, h⟩
theorem chkL_ad {α : Type} [DecidableEq α] {bad : α → Int} {x : α} (hb : bad x = 0) (l : List α) : chkL id bad (adK' l x) [] = chkL id bad l [] := by
  unfold adK'
  split
  · rfl
  · rename_i h
    exact chkL_snoc (key := id) hb l [] (by rw [List.map_id]; exact fun hm => h ((fnd_lt x l).2 hm)) (by simp)
theorem chkL_addT : ∀ (l : List Att) (K : List ByteArray) (V : List Val) (o : List Int), (∀ a ∈ l, kchk a.1 = 0 ∧ vchk a.2 = 0) → chkL id kchk (addT l K V o).1 [] = chkL id kchk K [] ∧ chkL id vchk (addT l K V o).2.1 [] = chkL id vchk V []
  | [], K, V, o, _ => ⟨rfl, rfl⟩
  | a :: l, K, V, o, h => by
    rw [addT]
    have := chkL_addT l (adK' K a.1) (adK' V a.2) (o ++ [(fnd a.1 K : Int), (fnd a.2 V : Int)]) (fun b hb => h b (by simp [hb]))
    rw [this.1, this.2, chkL_ad (h a (by simp)).1, chkL_ad (h a (by simp)).2]
    exact ⟨rfl, rfl⟩
abbrev PS := (List ByteArray) × (List Val) × (List ByteArray) × (List Val) × Int
structure PI (w : Int) (s : PS) : Prop where
  i0 : 0 ≤ s.2.2.2.2 ∧ s.2.2.2.2 ≤ 10
  ek : s.2.2.1 = s.1
  ev : s.2.2.2.1 = s.2.1
  lk : (s.1.length : Int) ≤ 20 + 10 * s.2.2.2.2
  lv : (s.2.1.length : Int) ≤ 20 + 10 * s.2.2.2.2
  sk : ∀ k ∈ s.1, Sh k
  sv : ∀ v ∈ s.2.1, ShV v
  tc : tchk s.1 s.2.1 = w
theorem law11_TablePlays_true (x0 : (List ByteArray) × (List (Int × ByteArray × Int))) (x1 : List (List (ByteArray × (Int × ByteArray × Int)))) (k0 : (∀ y4 ∈ x0.1, y4.size ≤ 9223372036854775807) ∧ (∀ y4 ∈ x0.2, I64 y4.1 ∧ y4.2.1.size ≤ 9223372036854775807 ∧ I64 y4.2.2)) (k1 : ∀ y2 ∈ x1, ∀ y2' ∈ y2, y2'.1.size ≤ 9223372036854775807 ∧ (I64 y2'.2.1 ∧ y2'.2.2.1.size ≤ 9223372036854775807 ∧ I64 y2'.2.2.2)) : law11_TablePlays x0 x1 = some true := by
  unfold law11_TablePlays
  obtain ⟨K, V, hT, hK, hV, hsK, hsV⟩ := Table_eq x0
  rw [hT, bind_some', Wrong_eq (by omega) (by omega) hsK hsV, bind_some', TCheck_eq (by omega) (by omega) hsK hsV, bind_some', decide_eq_true rfl, Bool.not_true, if_neg (by decide)]
  unfold law11_TablePlays_l1
  have := loopO_rule (body := fun s => law11_TablePlays_b1 x1 (tchk K V) s.1 s.2.1 s.2.2.1 s.2.2.2.1 s.2.2.2.2) (PI (tchk K V)) (fun s => (10 - s.2.2.2.2).toNat) (fun r => r = true) (fun s hs => by
    obtain ⟨Kx, Vx, K1, V1, i⟩ := s
    obtain ⟨⟨h1, h2⟩, h3, h4, h5, h6, h7, h8, h9⟩ := hs
    dsimp only at h1 h2 h3 h4 h5 h6 h7 h8 h9 ⊢
    subst h3; subst h4
    unfold law11_TablePlays_b1
    by_cases h : i < (x1.length : Int) ∧ i < 10
    · left
      obtain ⟨l, hl, hc⟩ := cut11_eq (x1.getD i.toNat [])
      have hl10 := hc.1
      rw [show (decide (i < (x1.length : Int)) && decide (i < 10)) = true by simp [h], bind_some', if_pos rfl, ix_int [] ⟨h1, h.1⟩, bind_some', hl, bind_some', Ofs_eq (by omega), bind_some', refCheck_eq (by omega) hc.sh, bind_some']
      have htc : table_Check l = some (lchk l) := tabCheck_eq (by omega) hc.sh
      by_cases hz : lchk l = 0
      · obtain ⟨K2, V2, tags, e1, e2, e3, e4, e5, e6, e7, e8⟩ := add_all (K := K1) (V := V1) (by omega) (by omega) hc hz
        have hlk : (K1 ++ K2).length ≤ 500 := by rw [List.length_append]; omega
        have hlv : (V1 ++ V2).length ≤ 500 := by rw [List.length_append]; omega
        have htl := e2.len
        have hch := chkL_addT l K1 V1 [] (lchk_ok hz).2.1
        rw [e8] at hch
        rw [e1, bind_some']
        dsimp only
        rw [hz, decide_eq_true rfl, Bool.not_true, Bool.not_false, gd_true, htc, bind_some', hz, decide_eq_true rfl, Bool.not_true, Bool.or_false, bind_some', if_neg (by decide), if_neg (by decide), bind_some', rAdd_eq (by omega) (by omega) (by omega), e8, bind_some', Attrs_eq (by omega), bind_some', e2.attr]
        dsimp only
        rw [Ints_eq (by omega) (by omega), bind_some', decide_eq_true rfl, Bool.not_true, Bool.not_false, gd_true, same_self (by omega) (by omega), bind_some', bind_some']
        simp only [decide_true, Bool.not_true, Bool.or_self, Bool.not_false, gd_true]
        rw [tSame_eq (by omega), bind_some', decide_eq_true rfl]
        simp only [Bool.not_true, Bool.or_self, Bool.false_eq_true, if_false]
        unfold law11_TablePlays_k2
        rw [ad_in (by omega)]
        refine ⟨_, rfl, ⟨⟨by dsimp only; omega, by dsimp only; omega⟩, rfl, rfl, by dsimp only; rw [List.length_append]; omega, by dsimp only; rw [List.length_append]; omega, fun k hk => ?_, fun v hv => ?_, ?_⟩, by dsimp only; omega⟩
        · rcases List.mem_append.1 hk with h' | h'
          · exact h7 k h'
          · exact (e6 k h').2
        · rcases List.mem_append.1 hv with h' | h'
          · exact h8 v h'
          · exact (e7 v h').2
        · rw [← h9]
          unfold tchk
          rw [hch.1, hch.2]
      · rw [Add_eq (by omega) (by omega) (by omega) hc.sh, if_neg hz, bind_some']
        dsimp only
        rw [decide_eq_true rfl, Bool.not_true, Bool.not_false, gd_true, htc, bind_some', decide_eq_true rfl, Bool.not_true, Bool.or_false, bind_some', if_neg (by decide), decide_eq_false hz, Bool.not_false, if_pos rfl]
        rw [show (([] : List Int).length : Int) = 0 from rfl, decide_eq_true rfl, Bool.not_true, Bool.not_false, gd_true, same_self (by omega) (by omega), bind_some', bind_some', if_neg (by decide)]
        unfold law11_TablePlays_k2
        rw [ad_in (by omega)]
        exact ⟨_, rfl, ⟨⟨by dsimp only; omega, by dsimp only; omega⟩, rfl, rfl, by dsimp only; omega, by dsimp only; omega, h7, h8, h9⟩, by dsimp only; omega⟩
    · right
      rw [show (decide (i < (x1.length : Int)) && decide (i < 10)) = false by rw [Bool.and_eq_false_iff, decide_eq_false_iff_not, decide_eq_false_iff_not]; omega, bind_some', if_neg (by decide), known11, bind_some', gd_true, TCheck_eq (by omega) (by omega) h7 h8, bind_some', h9, decide_eq_true rfl]
      exact ⟨true, rfl, rfl⟩) (s := (K, V, K, V, (0 : Int))) ⟨⟨Int.le_refl 0, by dsimp only; omega⟩, rfl, rfl, by dsimp only; omega, by dsimp only; omega, hsK, hsV, rfl⟩
  obtain ⟨r, h1, rfl⟩ := this
  exact h1
end Go.Proofs.Ytpbhdblkjabdlaa.Pl
