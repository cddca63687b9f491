/- Names: paths, in plain words. -/
import Derived.Test.YtjiafaiklmbbeaaDoorNamesA
namespace Go.Proofs.YtjiafaiklmbbeaaDoor
open Go.RowKit Go.Lib
set_option linter.unusedVariables false
set_option linter.unusedSimpArgs false
def firstBad : List (List UInt8) → Nat
  | [] => 0
  | x :: r => if checkN x ≠ 0 then checkN x else firstBad r
/-- What is wrong with names. -/
def allN (ls : List (List UInt8)) : Nat := if 5 < ls.length then 4 else firstBad ls
theorem firstBad_at {ls : List (List UInt8)} {k : Nat} (h : k < ls.length) : firstBad (ls.drop k) = if checkN (ls.getD k []) ≠ 0 then checkN (ls.getD k []) else firstBad (ls.drop (k + 1)) := by
  rw [List.drop_eq_getElem_cons h, firstBad]
  simp [List.getElem?_eq_getElem h]
theorem firstBad_bad {ls : List (List UInt8)} {k : Nat} (h : k < ls.length) (hc : ¬ (checkN (ls.getD k []) : Int) = 0) : firstBad (ls.drop k) = checkN (ls.getD k []) := by
  rw [firstBad_at h, if_pos (by omega)]
theorem firstBad_good {ls : List (List UInt8)} {k : Nat} (h : k < ls.length) (hc : (checkN (ls.getD k []) : Int) = 0) : firstBad (ls.drop k) = firstBad (ls.drop (k + 1)) := by
  rw [firstBad_at h, if_neg (by omega)]
theorem firstBad_end {ls : List (List UInt8)} {k : Nat} (h : ls.length ≤ k) : firstBad (ls.drop k) = 0 := by rw [List.drop_of_length_le h]; rfl
/-- Is a text no path, by its strokes at the ends? -/
def noPath (l : List UInt8) : Bool := !(([47] : List UInt8).isPrefixOf l) || ([47] : List UInt8).isSuffixOf l
/-- A path's names, and what is wrong with it. -/
def splitN (l : List UInt8) : List (List UInt8) × Nat :=
  if l = [47] then ([], 0) else if noPath l then ([], 10) else if allN (splitL (l.drop 1)) ≠ 0 then ([], allN (splitL (l.drop 1))) else (splitL (l.drop 1), 0)
/-- The path of names, and what is wrong with them. -/
def joinN (ls : List (List UInt8)) : List UInt8 × Nat := if allN ls ≠ 0 then ([], allN ls) else (47 :: joinL ls, 0)
theorem splitL_mem {l x : List UInt8} (h : x ∈ splitL l) : x.length ≤ l.length := by
  induction l generalizing x with
  | nil => simp [splitL] at h; subst h; simp
  | cons c l ih =>
    unfold splitL at h
    split at h
    · rcases List.mem_cons.1 h with h | h
      · subst h; simp
      · have := ih h; simp; omega
    · split at h
      · rename_i p ps hp
        rcases List.mem_cons.1 h with h | h
        · subst h
          have := ih (x := p) (by rw [hp]; simp)
          simp; omega
        · have := ih (x := x) (by rw [hp]; simp [h])
          simp; omega
      · simp at h; subst h; simp
/-- The pieces, with what stands of the first one ahead. -/
def splitG : List UInt8 → List UInt8 → List (List UInt8)
  | cur, [] => [cur]
  | cur, c :: r => if c = 47 then cur :: splitG [] r else splitG (cur ++ [c]) r
theorem splitG_eq (l : List UInt8) : ∀ cur, splitG cur l = match splitL l with | p :: ps => (cur ++ p) :: ps | [] => [] := by
  induction l with
  | nil => intro cur; simp [splitG, splitL]
  | cons c l ih =>
    intro cur
    unfold splitG splitL
    split
    · rw [ih]
      have := splitL_ne l
      split <;> simp_all
    · rw [ih]
      have := splitL_ne l
      split <;> simp_all
theorem splitG_nil (l : List UInt8) : splitG [] l = splitL l := by
  rw [splitG_eq]
  have := splitL_ne l
  split <;> simp_all
theorem drop_cons {l : List UInt8} {k : Nat} (h : k < l.length) : l.drop k = at0 l k :: l.drop (k + 1) := by
  rw [List.drop_eq_getElem_cons h]
  simp [at0, List.getElem?_eq_getElem h]
theorem take_more {l : List UInt8} {a k : Nat} (ha : a ≤ k) (h : k < l.length) : (l.drop a).take (k + 1 - a) = (l.drop a).take (k - a) ++ [at0 l k] := by
  rw [show k + 1 - a = (k - a) + 1 by omega, List.take_add_one, List.getElem?_drop, show a + (k - a) = k by omega, List.getElem?_eq_getElem h]
  simp [at0, List.getElem?_eq_getElem h]
theorem splitG_stroke {l : List UInt8} {k : Nat} (h : k < l.length) (hc : at0 l k = 47) (cur : List UInt8) : splitG cur (l.drop k) = cur :: splitG [] (l.drop (k + 1)) := by
  rw [drop_cons h, splitG, if_pos hc]
theorem splitG_more {l : List UInt8} {k : Nat} (h : k < l.length) (hc : at0 l k ≠ 47) (cur : List UInt8) : splitG cur (l.drop k) = splitG (cur ++ [at0 l k]) (l.drop (k + 1)) := by
  rw [drop_cons h, splitG, if_neg hc]
theorem splitG_end {l : List UInt8} {k : Nat} (h : l.length ≤ k) (cur : List UInt8) : splitG cur (l.drop k) = [cur] := by
  rw [List.drop_of_length_le h]; rfl
theorem noPath_eq {l : List UInt8} (hl : 0 < l.length) : noPath l = (!(at0 l 0 == 47) || at0 l (l.length - 1) == 47) := by
  unfold noPath
  congr 1
  · cases l with
    | nil => simp at hl
    | cons c l => simp [List.isPrefixOf, at0]; rw [Bool.beq_comm]
  · rw [List.isSuffixOf, List.reverse_cons, List.reverse_nil, List.nil_append]
    have hr : l.reverse = at0 l (l.length - 1) :: (l.reverse.drop 1) := by
      have h1 : 0 < l.reverse.length := by simpa using hl
      have := List.drop_eq_getElem_cons h1
      rw [List.drop_zero] at this
      rw [this]
      congr 1
      simp [at0, List.getElem_reverse]
      rw [List.getElem?_eq_getElem (by omega)]
      rfl
    rw [hr, List.isPrefixOf]
    simp
    rw [Bool.beq_comm]
theorem noPath_nil : noPath [] = true := rfl
/-- Names, each with a stroke ahead. -/
def jn (ls : List (List UInt8)) : List UInt8 := (ls.map (47 :: ·)).flatten
theorem jn_join {ls : List (List UInt8)} (h : ls ≠ []) : jn ls = 47 :: joinL ls := by
  induction ls with
  | nil => exact absurd rfl h
  | cons x r ih =>
    cases r with
    | nil => simp [jn, joinL]
    | cons y r =>
      have := ih (by simp)
      simp only [jn, List.map_cons, List.flatten_cons, joinL] at this ⊢
      rw [this]
      simp
theorem jn_succ {ls : List (List UInt8)} {k : Nat} (h : k < ls.length) : jn (ls.take (k + 1)) = (jn (ls.take k) ++ [47]) ++ ls.getD k [] := by
  unfold jn
  rw [List.take_add_one, List.map_append, List.flatten_append]
  simp [List.getElem?_eq_getElem h]
theorem jn_le (ls : List (List UInt8)) (k : Nat) : (jn (ls.take k)).length ≤ (jn ls).length := by
  unfold jn
  conv => rhs; rw [← List.take_append_drop k ls]
  rw [List.map_append, List.flatten_append, List.length_append]
  omega
theorem jn_nil {ls : List (List UInt8)} : jn ls = [] ↔ ls = [] := by
  cases ls <;> simp [jn]
theorem joinL_len (ls : List (List UInt8)) : (joinL ls).length ≤ (jn ls).length := by
  by_cases h : ls = []
  · subst h; simp [joinL]
  · rw [jn_join h]; simp
theorem jn_mem {ls : List (List UInt8)} {x : List UInt8} (h : x ∈ ls) : x.length ≤ (jn ls).length := by
  induction ls with
  | nil => cases h
  | cons y r ih =>
    simp only [jn, List.map_cons, List.flatten_cons, List.length_append, List.length_cons]
    rcases List.mem_cons.1 h with h | h
    · subst h; omega
    · have := ih h; unfold jn at this; omega
theorem jn_count (ls : List (List UInt8)) : ls.length ≤ (jn ls).length := by
  induction ls with
  | nil => simp
  | cons y r ih =>
    simp only [jn, List.map_cons, List.flatten_cons, List.length_append, List.length_cons] at ih ⊢
    omega
theorem getD_mem {ls : List (List UInt8)} {k : Nat} (h : k < ls.length) : ls.getD k [] ∈ ls := by simp [List.getElem?_eq_getElem h]
theorem joinN_eq (ls : List (List UInt8)) : joinN ls = if allN ls ≠ 0 then ([], allN ls) else if jn ls = [] then ([47], 0) else (jn ls, 0) := by
  unfold joinN
  by_cases h : ls = []
  · subst h; rfl
  · have : ¬ jn ls = [] := fun hc => h (jn_nil.1 hc)
    rw [if_neg this, jn_join h]
end Go.Proofs.YtjiafaiklmbbeaaDoor
