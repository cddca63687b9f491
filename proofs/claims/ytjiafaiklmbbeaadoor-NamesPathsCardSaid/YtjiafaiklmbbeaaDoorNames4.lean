/- Names: bounds of paths, in plain words. -/
import Derived.Test.YtjiafaiklmbbeaaDoorNames3
namespace Go.Proofs.YtjiafaiklmbbeaaDoor
open Go.RowKit Go.Lib
set_option linter.unusedVariables false
set_option linter.unusedSimpArgs false
def smL (ls : List (List UInt8)) (i : Nat) : Nat := ((ls.take i).map List.length).sum
theorem smL_succ {ls : List (List UInt8)} {k : Nat} (h : k < ls.length) : smL ls (k + 1) = smL ls k + (ls.getD k []).length := by
  unfold smL
  rw [List.take_add_one, List.map_append, List.sum_append]
  simp [List.getElem?_eq_getElem h]
theorem jn_bound {ls : List (List UInt8)} {b : Nat} (h : ∀ k, k < ls.length → (ls.getD k []).length ≤ b) : (jn ls).length ≤ (b + 1) * ls.length := by
  have h' : ∀ x ∈ ls, x.length ≤ b := by
    intro x hx
    obtain ⟨k, hk, rfl⟩ := List.getElem_of_mem hx
    have := h k hk
    simpa [List.getElem?_eq_getElem hk] using this
  clear h
  induction ls with
  | nil => simp [jn]
  | cons x r ih =>
    have h1 := h' x (by simp)
    have h2 := ih fun y hy => h' y (by simp [hy])
    simp only [jn, List.map_cons, List.flatten_cons, List.length_append, List.length_cons] at h2 ⊢
    rw [Nat.mul_add]
    omega
theorem jn_split {l : List UInt8} (h : (splitN l).2 = 0) : (jn (splitN l).1).length ≤ l.length := by
  have hj := join_split h
  rw [joinN_eq] at hj
  split at hj
  · rename_i ha
    injection hj with h1 h2
    exact absurd h2 ha
  · split at hj
    · rename_i h0; rw [h0]; simp
    · injection hj with h1 h2
      rw [h1]; exact Nat.le_refl _
theorem splitN_len (l : List UInt8) : (splitN l).1.length ≤ l.length + 1 := by
  have := splitL_len (l.drop 1)
  rw [List.length_drop] at this
  unfold splitN
  repeat' split
  all_goals first
    | (simp; done)
    | (simp at this ⊢; omega)
theorem split_nm {ls : List (List UInt8)} (hls : ∀ x ∈ ls, checkN x = 0 ∧ (47 : UInt8) ∉ x ∧ x ≠ [] ∧ x.length ≤ 49) (ha : (joinN ls).2 = 0) : splitN (joinN ls).1 = (ls, 0) := by
  have h0 : allN ls = 0 := by
    unfold joinN at ha
    split at ha
    · exact ha
    · rename_i h; simpa using h
  have hj : joinN ls = (47 :: joinL ls, 0) := by unfold joinN; rw [if_neg (fun hc => hc h0)]
  rw [hj]
  by_cases hn : ls = []
  · subst hn; rfl
  · rw [split_join hn fun x hx => ⟨(hls x hx).2.1, (hls x hx).2.2.1⟩, if_neg (fun hc => hc h0)]
theorem joinN_len (ls : List (List UInt8)) : (joinN ls).1.length ≤ (jn ls).length + 1 := by
  have := joinL_len ls
  unfold joinN
  split
  · simp
  · simp; omega
def rowsP (s p pc : List UInt8) (k : Nat) : List (List UInt8) := [s, p.take k ++ pc ++ p.drop k, [47] ++ s, p ++ [47], p.take k]
theorem rowsP_len {s p pc : List UInt8} {k : Nat} (hk : k ≤ p.length) (hs : s.length ≤ 500) (hp : p.length ≤ 1000) (hpc : pc.length ≤ 100) : ∀ x ∈ rowsP s p pc k, x.length ≤ 2000 := by
  intro x hx
  simp only [rowsP, List.mem_cons, List.mem_nil_iff, or_false] at hx
  rcases hx with rfl | rfl | rfl | rfl | rfl <;> (try simp only [List.length_append, List.length_take, List.length_drop, List.length_cons, List.length_nil]) <;> omega
end Go.Proofs.YtjiafaiklmbbeaaDoor
