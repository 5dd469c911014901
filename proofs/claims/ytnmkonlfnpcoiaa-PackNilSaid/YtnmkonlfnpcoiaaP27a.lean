import Derived.Test.YtnmkonlfnpcoiaaLib
import Derived.Test.YtnmkonlfnpcoiaaSall
namespace Go.Proofs.Ytnmkonlfnpcoiaa.Pl
set_option maxRecDepth 8000
theorem vb {k : Int} (hk : k = 0 ∨ k = 1) : varint_Bytes [k] = some [k] := by
  have h2 : varint_Bytes_l2 0 ([], k) = some (.inl ([k], 1)) := by rcases hk with rfl | rfl <;> exact loopO_inr rfl
  have h1 : varint_Bytes_b1 [k] [] 0 = some (.inl ([k], 1)) := by
    unfold varint_Bytes_b1
    rw [show decide ((0 : Int) < (([k] : List Int).length : Int)) = true from rfl, if_pos rfl, show ix [k] 0 = some k from rfl, bind_some', h2]
  exact (show loopO _ _ = _ from (loopO_inl h1).trans (loopO_inr rfl))
theorem put1 {k : Int} (hk : k = 0 ∨ k = 1) (f : List Int) (hf : f.length ≤ 100) : pack_Write_1 k f = some (f ++ [k]) := by
  unfold pack_Write_1
  rw [show IntKind.u64.wrap k = k by rcases hk with rfl | rfl <;> rfl, vb hk, bind_some', app_le (by simp; omega)]; rfl
theorem put1F {k : Int} (hk : k = 0 ∨ k = 1) (f : List Int) (hf : f.length ≤ 100) : pack_Write_1_p1 k f = some (f ++ [k]) := by
  unfold pack_Write_1_p1
  rw [show IntKind.u64.wrap k = k by rcases hk with rfl | rfl <;> rfl, vb hk, bind_some', show apF f [k] = app f [k] from rfl, app_le (by simp; omega)]; rfl
theorem packed0 : pack_packed [] [] = some (([], [], []), 0) := by
  have h2 : pack_packed_l2 [] [] ([], [], [], 0) = some (([], [], []), 0) := loopO_inr rfl
  exact (show loopO _ _ = _ from loopO_inr (show Option.map Sum.inr (pack_packed_l2 [] [] ([], [], [], 0)) = _ by rw [h2]; rfl))
theorem packed1 : pack_packed [] [((0, 0, 0), [7])] = some (([], [[7]], [((0, 0, 0), 0)]), 0) := by
  have h2 : pack_packed_l2 [] [((0, 0, 0), [7])] ([], [], [], 0) = some (([], [[7]], [((0, 0, 0), 0)]), 0) :=
    (show loopO _ _ = _ from (loopO_inl (s' := ([[7]], [((0, 0, 0), 0)], [(bsS [7], 0)], 1)) rfl).trans (loopO_inr rfl))
  have hb : pack_packed_b1 [] [((0, 0, 0), [7])] [((0, 0, 0), true)] 1 = some (.inr (([], [[7]], [((0, 0, 0), 0)]), 0)) := by
    unfold pack_packed_b1 slices_Clone_pack_Entry_pack_Entry
    rw [if_neg (by decide), app_le (by simp), bind_some', bind_some', show tiny ([] ++ [(((0, 0, 0) : Int × Int × Int), [(7 : Int)])]) = some () from rfl, bind_some']
    exact congrArg (Option.map Sum.inr) h2
  exact (show loopO _ _ = _ from (loopO_inl (s' := ([((0, 0, 0), true)], 1)) rfl).trans (loopO_inr hb))
theorem write0 : pack_Write [] [] = some ([71, 82, 84, 49, 0, 0, 0], 0) := by
  unfold pack_Write pack_Write_2
  rw [packed0, bind_some', if_neg (by decide)]
  rw [show ((([] : List Int).length : Nat) : Int) = 0 from rfl, put1F (.inl rfl) _ (by simp), bind_some', show ([71, 82, 84, 49] ++ [0] : List Int) = [71, 82, 84, 49, 0] from rfl, app_le (by simp), bind_some', bind_some',
    show ((([] : List (List Int)).length : Nat) : Int) = 0 from rfl, put1 (.inl rfl) _ (by simp), bind_some']
  refine (show loopO _ _ = _ from loopO_inr ?_)
  show Option.map Sum.inr ((pack_Write_1 0 [71, 82, 84, 49, 0, 0]).bind fun r319 => pack_Write_l2 (([], [], []), 0) (r319, 0)) = _
  rw [put1 (.inl rfl) _ (by simp), bind_some', show pack_Write_l2 (([], [], []), 0) ([71, 82, 84, 49, 0, 0] ++ [0], 0) = some ([71, 82, 84, 49, 0, 0, 0], 0) from loopO_inr rfl]; rfl
theorem write1 : pack_Write [] [((0, 0, 0), [7])] = some ([71, 82, 84, 49, 0, 1, 1, 7, 1, 0, 0, 0, 0], 0) := by
  unfold pack_Write pack_Write_2
  rw [packed1, bind_some', if_neg (by decide)]
  rw [show ((([] : List Int).length : Nat) : Int) = 0 from rfl, put1F (.inl rfl) _ (by simp), bind_some', show ([71, 82, 84, 49] ++ [0] : List Int) = [71, 82, 84, 49, 0] from rfl, app_le (by simp), bind_some', bind_some',
    show ((([[7]] : List (List Int)).length : Nat) : Int) = 1 from rfl, put1 (.inr rfl) _ (by simp), bind_some']
  have hb : pack_Write_b1 (([], [[7]], [((0, 0, 0), 0)]), 0) ([71, 82, 84, 49, 0] ++ [] ++ [1]) 0 = some (.inl ([71, 82, 84, 49, 0, 1, 1, 7], 1)) := by
    show (pack_Write_2_p1 [7] [71, 82, 84, 49, 0, 1]).bind _ = _
    unfold pack_Write_2_p1
    rw [show ((([7] : List Int).length : Nat) : Int) = 1 from rfl, put1 (.inr rfl) _ (by simp)]; rfl
  refine (show loopO _ _ = _ from (loopO_inl hb).trans (loopO_inr ?_))
  have h2 : pack_Write_l2 (([], [[7]], [((0, 0, 0), 0)]), 0) ([71, 82, 84, 49, 0, 1, 1, 7, 1], 0) = some ([71, 82, 84, 49, 0, 1, 1, 7, 1, 0, 0, 0, 0], 0) := by
    have hb2 : pack_Write_b2 (([], [[7]], [((0, 0, 0), 0)]), 0) [71, 82, 84, 49, 0, 1, 1, 7, 1] 0 = some (.inl ([71, 82, 84, 49, 0, 1, 1, 7, 1, 0, 0, 0, 0], 1)) := by
      show (pack_Write_1 0 [71, 82, 84, 49, 0, 1, 1, 7, 1]).bind (fun r409 => (pack_Write_1 0 r409).bind fun r414 => (pack_Write_1 0 r414).bind fun r419 => (pack_Write_1 0 r419).bind fun r424 => some (Sum.inl (r424, ad 0 1))) = _
      rw [put1 (.inl rfl) _ (by simp), bind_some', put1 (.inl rfl) _ (by simp), bind_some', put1 (.inl rfl) _ (by simp), bind_some', put1 (.inl rfl) _ (by simp)]; rfl
    exact (show loopO _ _ = _ from (loopO_inl hb2).trans (loopO_inr rfl))
  show Option.map Sum.inr ((pack_Write_1 1 [71, 82, 84, 49, 0, 1, 1, 7]).bind fun r319 => pack_Write_l2 (([], [[7]], [((0, 0, 0), 0)]), 0) (r319, 0)) = _
  rw [put1 (.inr rfl) _ (by simp), bind_some', show ([71, 82, 84, 49, 0, 1, 1, 7] ++ [1] : List Int) = [71, 82, 84, 49, 0, 1, 1, 7, 1] from rfl, h2]; rfl
theorem pre1 : strings_HasPrefix (bsS [71, 82, 84, 49, 0, 1, 1, 7, 1, 0, 0, 0, 0]) (⟨#[71, 82, 84, 49]⟩ : ByteArray) = some true := by decide +kernel
theorem open1 : pack_Open [71, 82, 84, 49, 0, 1, 1, 7, 1, 0, 0, 0, 0] = some (([], [[7]], [((0, 0, 0), 0)]), 0) := by
  unfold pack_Open
  rw [pre1, bind_some', if_neg (by decide)]
  refine (show _ = pack_Open_l1 (Sum.inl ([], [[7]], upM [] (bsS [7]) true, [1, 0, 0, 0, 0], 0, 1, 1)) from rfl).trans ?_
  refine (show loopO _ _ = _ from (loopO_inl (s' := Sum.inr ([], [[7]], [((0, 0, 0), 0)], [], 0, 1, 1, 1, (0, 0, 0))) rfl).trans (loopO_inr rfl))
theorem same {l : List Int} (n : Nat) (hn : l.length = n) (h : ∀ k, k < n → ref07_Same_b1 l l (k : Int) = some (.inl ((k + 1 : Nat) : Int))) (he : ref07_Same_b1 l l (n : Int) = some (.inr true)) : ref07_Same l l = some true := by
  unfold ref07_Same
  rw [decide_eq_true rfl, if_neg (by decide)]
  exact loopO_nat (body := fun s => ref07_Same_b1 l l s) (fun k => (k : Int)) n true h he
theorem same_self (l : List Int) (hl : l.length ≤ 1000) : ref07_Same l l = some true := by
  refine same l.length rfl (fun k hk => ?_) ?_
  · unfold ref07_Same_b1
    rw [dlt hk, if_pos rfl, ix_getD 0 hk, bind_some', bind_some', decide_eq_true rfl, if_neg (by decide), ad_one (by omega)]
  · unfold ref07_Same_b1
    rw [dnlt (Nat.lt_irrefl _), if_neg (by decide)]; rfl
theorem known27 : law27_known = some true := by
  unfold law27_known
  rw [write0, bind_some', write1, bind_some', open1, bind_some']
  simp only [decide_true, Bool.and_self, bind_some', gd_true]
  rw [same_self _ (by simp), bind_some']
  simp only [Bool.and_self, bind_some', gd_true]
  rw [same_self _ (by simp), bind_some']
  rfl
theorem law27_PackNil_true (x0 : Int × Int × Int) (k0 : I64 x0.1 ∧ I64 x0.2.1 ∧ I64 x0.2.2) : law27_PackNil x0 = some true := by
  unfold law27_PackNil
  rw [known27]; rfl
end Go.Proofs.Ytnmkonlfnpcoiaa.Pl
