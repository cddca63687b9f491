/- Names: rows of names made of numbers, in plain words. -/
import Derived.Test.YtjiafaiklmbbeaaDoorNames2
namespace Go.Proofs.YtjiafaiklmbbeaaDoor
open Go.RowKit Go.Lib
set_option linter.unusedVariables false
set_option linter.unusedSimpArgs false
abbrev Q := Value × List Int
def nmL (qs : List Q) (k : Nat) : List (List UInt8) := (qs.take k).map fun q => nameN q.2
theorem nmL_len (qs : List Q) (k : Nat) (h : k ≤ qs.length) : (nmL qs k).length = k := by simp [nmL]; omega
theorem nmL_succ {qs : List Q} {k : Nat} (h : k < qs.length) : nmL qs (k + 1) = nmL qs k ++ [nameN (qs.getD k (undef, [])).2] := by
  unfold nmL
  rw [List.take_add_one, List.map_append]
  simp [List.getElem?_eq_getElem h]
theorem vals_at {qs : List Q} {k : Nat} (h : k < qs.length) : (qs.map (·.1))[k]? = some (qs.getD k (undef, [])).1 := by
  simp [List.getElem?_eq_getElem h]
theorem getD_memQ {qs : List Q} {k : Nat} (h : k < qs.length) : qs.getD k (undef, []) ∈ qs := by simp [List.getElem?_eq_getElem h]
theorem jn_app (a b : List (List UInt8)) : jn (a ++ b) = jn a ++ jn b := by simp [jn]
theorem jn_nm_len (qs : List Q) (q : Nat) : (jn (nmL qs q)).length ≤ 50 * q := by
  have key : ∀ ls : List Q, (jn (ls.map fun q => nameN q.2)).length ≤ 50 * ls.length := by
    intro ls
    induction ls with
    | nil => simp [jn]
    | cons x r ih =>
      have := nameN_len x.2
      simp only [List.map_cons, jn, List.flatten_cons, List.length_append, List.length_cons] at ih ⊢
      omega
  have := key (qs.take q)
  have h2 : (qs.take q).length ≤ q := by simp; omega
  unfold nmL
  omega
theorem nm_mem {qs : List Q} {q : Nat} {x : List UInt8} (h : x ∈ nmL qs q) : checkN x = 0 ∧ (47 : UInt8) ∉ x ∧ x ≠ [] ∧ x.length ≤ 49 := by
  obtain ⟨y, _, rfl⟩ := List.mem_map.1 h
  exact ⟨check_name _, name_stroke _, name_ne _, nameN_len _⟩
theorem nm_all (qs : List Q) (q : Nat) (h : (nmL qs q).length ≤ 5) : allN (nmL qs q) = 0 := allN_good h fun x hx => (nm_mem hx).1
theorem nm_path {ls : List (List UInt8)} (hsk : ∀ x ∈ ls, (47 : UInt8) ∉ x ∧ x ≠ []) : (47 :: joinL ls = [47]) ↔ ls = [] := by
  constructor
  · intro h
    by_cases hl : ls = []
    · exact hl
    · have := (noPath_join hl hsk).2
      simp at h
      exact absurd h this
  · intro h; subst h; rfl
theorem joinL_snoc {ls : List (List UInt8)} (h : ls ≠ []) (n : List UInt8) : joinL (ls ++ [n]) = joinL ls ++ 47 :: n := by
  induction ls with
  | nil => exact absurd rfl h
  | cons x r ih =>
    cases r with
    | nil => simp [joinL]
    | cons y r =>
      have := ih (by simp)
      simp only [List.cons_append, joinL] at this ⊢
      rw [this]
      simp
theorem parts_split (zs : List Int) {ls : List (List UInt8)} (hls : ∀ x ∈ ls, checkN x = 0 ∧ (47 : UInt8) ∉ x ∧ x ≠ [] ∧ x.length ≤ 49) :
    splitN (47 :: joinL (ls ++ [nameN zs])) = if 5 < ls.length + 1 then ([], 4) else (ls ++ [nameN zs], 0) := by
  have hm : ∀ x ∈ ls ++ [nameN zs], checkN x = 0 ∧ (47 : UInt8) ∉ x ∧ x ≠ [] := by
    intro x hx
    rcases List.mem_append.1 hx with hx | hx
    · exact ⟨(hls x hx).1, (hls x hx).2.1, (hls x hx).2.2.1⟩
    · simp at hx; subst hx; exact ⟨check_name _, name_stroke _, name_ne _⟩
  rw [split_join (by simp) fun x hx => (hm x hx).2]
  by_cases h5 : 5 < ls.length + 1
  · rw [if_pos h5, allN_many (by simpa using h5), if_pos (by decide)]
  · rw [if_neg h5, allN_good (by simp; omega) fun x hx => (hm x hx).1, if_neg (by decide)]
theorem parts_one (zs : List Int) {ls : List (List UInt8)} (h : ls = []) : splitN ([47] ++ nameN zs) = (ls ++ [nameN zs], 0) := by
  subst h
  exact parts_split zs (ls := []) (by simp)
theorem parts_more (zs : List Int) {ls : List (List UInt8)} (hls : ∀ x ∈ ls, checkN x = 0 ∧ (47 : UInt8) ∉ x ∧ x ≠ [] ∧ x.length ≤ 49) (h : ls ≠ []) :
    splitN (47 :: joinL ls ++ [47] ++ nameN zs) = if 5 < ls.length + 1 then ([], 4) else (ls ++ [nameN zs], 0) := by
  have := parts_split zs hls
  rw [joinL_snoc h] at this
  rw [← this]
  simp
theorem same_snoc {ls : List (List UInt8)} {n : List UInt8} : [] ++ ss ls ++ [sV n] = ss (ls ++ [n]) := by rw [List.nil_append, ss_append]; rfl
end Go.Proofs.YtjiafaiklmbbeaaDoor
