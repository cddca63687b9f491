/- How long an argument may be: the reach. -/
import Derived.Test.YtjiafaiklmbbeaaDoorOpen2
import Derived.SizedLaws
namespace Go.Proofs.YtjiafaiklmbbeaaDoor
open Go.RowKit Go.ChangeShapes Go.WideShapes Go.Deep
set_option linter.unusedVariables false
section
variable {H : Type} {enc : TypeId × Value → H} {P : Program} {w : World} {base : Nat} {spare : Nat → Bool} {held : Bool}
theorem sz_slice {t e : TypeId} {fuel : Nat} {v : Value} {d : DataW H} {ps : List MemPlace} (ht : P.underlying t = some (.slice e)) (h : DataW.trod enc P w base spare held fuel t [v] = some (d, ps)) (hb : 1 ≤ P.bytesOf e) (hw : ∀ n ∈ d.weights P t, n ≤ reachBytes)
    {n size : Nat} {xs : List Value} (hr : Rd w size v n xs) : n ≤ 140737488351232 := by
  obtain ⟨_, A, c, hv, _⟩ := hr
  rcases open_slice ht h with ⟨h1, _⟩ | ⟨a, len, cap, m, k, D, Pl, h1, hb2, hl, hm, hmm, hx, hi⟩
  · injection h1 with h1
    rw [hv] at h1
    injection h1 with _ h1 _
    omega
  · injection h1 with h1
    rw [hv] at h1
    injection h1 with _ h1 _
    subst h1
    injection hx with hx _
    have := hw _ (show _ ∈ d.weights P t by rw [hx]; unfold DataW.weights; simp only [ht]; exact List.mem_cons_self)
    simp only [List.length_map, List.length_range] at this
    have hle : n ≤ n * P.bytesOf e := Nat.le_mul_of_pos_right _ hb
    have h2 : n * P.bytesOf e ≤ reachBytes := by
      refine Nat.le_trans (Nat.mul_le_mul_right _ ?_) this
      omega
    have : reachBytes = 140737488351232 := rfl
    omega
end
end Go.Proofs.YtjiafaiklmbbeaaDoor
