import Derived.Test.YtoccfdohlefifaaPre
import GoSem.Op.String
import GoSem.Core.Utf8
namespace Go.Proofs.Ytoccfdohlefifaa
section
variable {S R : Type} {N : S → Nat} {body : S → Nat → Option (S ⊕ R)}
def runQ (N : S → Nat) (body : S → Nat → Option (S ⊕ R)) : Nat → S → R → Prop
  | 0, _, _ => False
  | n + 1, s, r => ∀ q, (q < N s ∨ N s = 0 ∧ q = 0) → body s q = some (.inr r) ∨ ∃ s', body s q = some (.inl s') ∧ runQ N body n s' r
theorem runQ_one : ∀ {n m : Nat} {s : S} {r r' : R}, runQ N body n s r → runQ N body m s r' → r = r'
  | 0, _, _, _, _, h, _ => h.elim
  | _ + 1, 0, _, _, _, _, h => h.elim
  | n + 1, m + 1, s, r, r', h, h' => by
    have hq : 0 < N s ∨ N s = 0 ∧ 0 = 0 := by omega
    rcases h 0 hq with h1 | ⟨s1, h1, k1⟩ <;> rcases h' 0 hq with h2 | ⟨s2, h2, k2⟩ <;> rw [h1] at h2
    · injection h2 with h2; injection h2
    · injection h2 with h2; cases h2
    · injection h2 with h2; cases h2
    · injection h2 with h2
      injection h2 with h2
      subst h2
      exact runQ_one k1 k2
noncomputable def loopQ (N : S → Nat) (body : S → Nat → Option (S ⊕ R)) (s : S) : Option R :=
  open Classical in if h : ∃ r n, runQ N body n s r then some h.choose else none
theorem loopQ_some {s : S} {r : R} (h : loopQ N body s = some r) : ∃ n, runQ N body n s r := by
  unfold loopQ at h
  split at h
  · rename_i hx
    injection h with h
    rw [← h]; exact hx.choose_spec
  · cases h
theorem loopQ_mk {s : S} {r : R} {n : Nat} (h : runQ N body n s r) : loopQ N body s = some r := by
  unfold loopQ
  have hx : ∃ r n, runQ N body n s r := ⟨r, n, h⟩
  rw [dif_pos hx]
  obtain ⟨m, hm⟩ := hx.choose_spec
  rw [runQ_one hm h]
end
end Go.Proofs.Ytoccfdohlefifaa
