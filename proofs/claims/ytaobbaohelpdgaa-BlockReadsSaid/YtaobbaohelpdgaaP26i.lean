import Derived.Test.YtaobbaohelpdgaaP26h
namespace Go.Proofs.Ytaobbaohelpdgaa.Pl
set_option maxRecDepth 4000
theorem Ofs01_eq (l : List Pt) (hn : l.length ≤ 1000000) : law01_Ofs l = some l := by
  unfold law01_Ofs law01_Ofs_l1
  have := loopO_nat (body := fun s => law01_Ofs_b1 l s.1 s.2) (fun k => (l.take k, (k : Int))) l.length l (fun k hk => by
    unfold law01_Ofs_b1
    simp only [dlt hk, if_true, ix_getD (0, 0) hk, bind_some', law01_Of]
    rw [app_at (by simp [capB]; omega), bind_some', ad_one (by omega), ← snoc_take (0, 0) hk]) (by
    unfold law01_Ofs_b1
    simp only [dnlt (Nat.lt_irrefl _), List.take_length]; rfl)
  exact this
theorem Ofs14_eq (l : List ArcT) (hl : l.length ≤ 1000000) (h2 : ∀ a ∈ l, a.1.length ≤ 1000000) : law14_Ofs l = some l := by
  have := loopO_nat (body := fun s => law14_Ofs_b1 l s.1 s.2) (fun k => (l.take k, (k : Int))) l.length l (fun k hk => by
    show law14_Ofs_b1 _ _ _ = _
    unfold law14_Ofs_b1
    rw [dlt hk, if_pos rfl, ix_getD ([], 0, 0) hk, bind_some', Ofs01_eq _ (h2 _ (getD_mem hk)), bind_some', bind_some', bind_some', app_le (by simp only [List.length_take, List.length_cons, List.length_nil]; omega), bind_some', ad_one (by omega), snoc_take ([], 0, 0) hk]) (by
    show law14_Ofs_b1 _ _ _ = _
    unfold law14_Ofs_b1
    rw [dnlt (Nat.lt_irrefl _), if_neg (by decide), take_all]; rfl)
  exact this
theorem Of_eq (n : NetP) (h1 : n.1.length ≤ 1000000) (h2 : pointsN n ≤ 1000000) : law15_Of n = some n := by
  unfold law15_Of
  rw [Ofs14_eq _ h1 (fun a ha => by
    have : a.1.length ≤ pointsN n := le_sum (fun a : ArcT => a.1.length) n.1 ha
    omega), bind_some']
end Go.Proofs.Ytaobbaohelpdgaa.Pl
