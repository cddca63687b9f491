/- Rows put together: plain words. -/
import Derived.Test.YtjiafaiklmbbeaaDoorSl8
namespace Go.Proofs.YtjiafaiklmbbeaaDoor
/-- The first k of these, one after another. -/
def cat {α : Type} (ls : List (List α)) (k : Nat) : List α := (ls.take k).flatten
theorem cat_zero {α : Type} (ls : List (List α)) : cat ls 0 = [] := by simp [cat]
theorem cat_succ {α : Type} {ls : List (List α)} {k : Nat} (h : k < ls.length) : cat ls (k + 1) = cat ls k ++ ls.getD k [] := by
  unfold cat
  rw [List.take_add_one, List.flatten_append]
  simp [List.getElem?_eq_getElem h]
theorem cat_all {α : Type} (ls : List (List α)) : cat ls ls.length = ls.flatten := by simp [cat]
theorem cat_le {α : Type} (ls : List (List α)) (k : Nat) : (cat ls k).length ≤ ls.flatten.length := by
  unfold cat
  conv => rhs; rw [← List.take_append_drop k ls]
  rw [List.flatten_append, List.length_append]
  omega
theorem getD_at {α : Type} {vs : List α} {k : Nat} {d : α} (h : k < vs.length) : vs[k]? = some (vs.getD k d) := by simp [List.getElem?_eq_getElem h]
end Go.Proofs.YtjiafaiklmbbeaaDoor
