/- Blocks: plain words on rows of ids. -/
import Derived.Test.YtnhidehpacidnaaBlob0
import Derived.Test.YtnhidehpacidnaaSl6
namespace Go.Proofs.Ytnhidehpacidnaa
set_option linter.unusedVariables false
set_option linter.unusedSimpArgs false
theorem numB_four (n : Int) : numB n 4 = [byte (n.fdiv (2 ^ 24)), byte (n.fdiv (2 ^ 16)), byte (n.fdiv (2 ^ 8)), byte n] := by
  have : n.fdiv 1 = n := by simp
  simp [numB, List.range_succ, this]
theorem val_four (l : List UInt8) : val l 4 = (at0 l 0).toNat * 2 ^ 24 + (at0 l 1).toNat * 2 ^ 16 + (at0 l 2).toNat * 2 ^ 8 + (at0 l 3).toNat := by
  simp only [val]; omega
/-- The first k bytes, zeros behind. -/
def idTo (l : List UInt8) (k : Nat) : List UInt8 := l.take k ++ List.replicate (32 - k) 0
theorem idTo_zero (l : List UInt8) : idTo l 0 = zeroId := by simp [idTo, zeroId]
theorem idTo_length (l : List UInt8) {k : Nat} (hl : 32 ≤ l.length) (hk : k ≤ 32) : (idTo l k).length = 32 := by simp [idTo]; omega
theorem idTo_all (l : List UInt8) : idTo l 32 = l.take 32 := by simp [idTo]
theorem idTo_set (l : List UInt8) {k : Nat} (hl : 32 ≤ l.length) (hk : k < 32) : (bs (idTo l k)).set k (bv (at0 l k)) = bs (idTo l (k + 1)) := by
  have e : (bs (idTo l k)).set k (bv (at0 l k)) = bs ((idTo l k).set k (at0 l k)) := by simp [bs, List.map_set]
  rw [e]
  congr 1
  apply List.ext_getElem?
  intro j
  rw [List.getElem?_set]
  unfold idTo
  by_cases h1 : k = j
  · subst h1
    rw [if_pos rfl, if_pos (by simp; omega), List.getElem?_append_left (by simp; omega), List.getElem?_take, if_pos (by omega), List.getElem?_eq_getElem (by omega)]
    simp [at0, show k < l.length by omega]
  · rw [if_neg h1]
    by_cases h2 : j < k
    · rw [List.getElem?_append_left (by simp; omega), List.getElem?_append_left (by simp; omega), List.getElem?_take, List.getElem?_take, if_pos h2, if_pos (by omega)]
    · rw [List.getElem?_append_right (by simp; omega), List.getElem?_append_right (by simp; omega), List.getElem?_replicate, List.getElem?_replicate]
      simp only [List.length_take]
      by_cases h3 : j < 32
      · rw [if_pos (by omega), if_pos (by omega)]
      · rw [if_neg (by omega), if_neg (by omega)]
/-- An inner block of the first k of these. -/
def innerTo (l : List (List UInt8)) (k : Nat) : List UInt8 := [110, byte l.length] ++ (l.take k).flatten
def innerE (l : List (List UInt8)) : Int := if l.length = 0 then 1 else if 8 < l.length then 4 else 0
def innerR (l : List (List UInt8)) : List UInt8 := if innerE l = 0 then innerTo l l.length else []
theorem innerTo_succ {l : List (List UInt8)} {k : Nat} (h : k < l.length) : innerTo l (k + 1) = innerTo l k ++ l.getD k [] := by
  unfold innerTo
  rw [List.take_succ_eq_append_getElem h, List.flatten_append, ← List.append_assoc]
  congr 1
  simp [h]
theorem flat_ids {l : List (List UInt8)} (h : Ids l) : l.flatten.length = l.length * 32 := by
  induction l with
  | nil => rfl
  | cons x l ih =>
    rw [List.flatten_cons, List.length_append, ih (fun y hy => h y (by simp [hy])), h x (by simp), List.length_cons]
    omega
theorem innerTo_length {l : List (List UInt8)} (h : Ids l) {k : Nat} (hk : k ≤ l.length) : (innerTo l k).length = 2 + k * 32 := by
  unfold innerTo
  rw [List.length_append, flat_ids (h.take k), List.length_take, Nat.min_eq_left hk]
  rfl
/-- The ids of an inner block. -/
def idsOf (b : List UInt8) (n : Nat) : List (List UInt8) := (List.range n).map fun i => (b.drop (2 + i * 32)).take 32
theorem idsOf_length (b : List UInt8) (n : Nat) : (idsOf b n).length = n := by simp [idsOf]
theorem idsOf_ids {b : List UInt8} {n : Nat} (h : 2 + n * 32 ≤ b.length) : Ids (idsOf b n) := by
  intro x hx
  simp only [idsOf, List.mem_map, List.mem_range] at hx
  obtain ⟨i, hi, rfl⟩ := hx
  simp
  omega
theorem idsOf_succ (b : List UInt8) (n : Nat) : idsOf b (n + 1) = idsOf b n ++ [(b.drop (2 + n * 32)).take 32] := by simp [idsOf, List.range_succ]
/-- The first k of them, zeros behind. -/
def idsTo (b : List UInt8) (n k : Nat) : List (List UInt8) := idsOf b k ++ List.replicate (n - k) zeroId
theorem idsTo_zero (b : List UInt8) (n : Nat) : idsTo b n 0 = List.replicate n zeroId := by simp [idsTo, idsOf]
theorem idsTo_all (b : List UInt8) (n : Nat) : idsTo b n n = idsOf b n := by simp [idsTo]
theorem idsTo_length (b : List UInt8) {n k : Nat} (h : k ≤ n) : (idsTo b n k).length = n := by simp [idsTo, idsOf_length]; omega
theorem idsTo_ids {b : List UInt8} {n k : Nat} (h : 2 + k * 32 ≤ b.length) : Ids (idsTo b n k) := by
  intro x hx
  simp only [idsTo, List.mem_append] at hx
  rcases hx with hx | hx
  · exact idsOf_ids h x hx
  · rw [List.eq_of_mem_replicate hx]; rfl
theorem idsTo_set {b : List UInt8} {n k : Nat} (hk : k < n) : (idsTo b n k).set k ((b.drop (2 + k * 32)).take 32) = idsTo b n (k + 1) := by
  unfold idsTo
  rw [List.set_append_right _ _ (by rw [idsOf_length]; omega), idsOf_length, Nat.sub_self, idsOf_succ, List.append_assoc]
  congr 1
  rw [show n - k = (n - (k + 1)) + 1 by omega, List.replicate_succ]
  rfl
theorem idsC_step {l : List (List UInt8)} (h : Ids l) {k : Nat} (hk : k < l.length) {y : List UInt8} (hy : 32 ≤ y.length) : over (idsC l) (k * 32) ((bs y).take (min y.length 32)) = idsC (l.set k (y.take 32)) := by
  rw [Nat.min_eq_right hy, ← bs_take]
  exact idsC_set h hk (by simp; omega)
def parseNE (b : List UInt8) : Int :=
  if b.length < 2 then 8
  else if at0 b 0 ≠ 110 ∨ (at0 b 1).toNat < 1 ∨ 8 < (at0 b 1).toNat then 11
  else if b.length < 2 + (at0 b 1).toNat * 32 then 8
  else if 2 + (at0 b 1).toNat * 32 < b.length then 9 else 0
def parseNL (b : List UInt8) : List (List UInt8) := if parseNE b = 0 then idsOf b (at0 b 1).toNat else []
theorem parseNE_cut {b : List UInt8} (h : decide ((b.length : Int) < 2) = true) : parseNE b = 8 := by have := of_decide_eq_true h; unfold parseNE; rw [if_pos (by omega)]
theorem parseNE_bad {b : List UInt8} (h : decide ((b.length : Int) < 2) = false) (h2 : (!decide (((at0 b 0).toNat : Int) = 110) || decide (((at0 b 1).toNat : Int) < 1) || decide (8 < ((at0 b 1).toNat : Int))) = true) : parseNE b = 11 := by
  have := of_decide_eq_false h
  unfold parseNE
  rw [if_neg (by omega), if_pos]
  simp at h2
  rcases h2 with (h2 | h2) | h2
  · left; intro e; rw [e] at h2; exact h2 rfl
  · right; left; omega
  · right; right; omega
theorem parseN_good {b : List UInt8} (h2 : (!decide (((at0 b 0).toNat : Int) = 110) || decide (((at0 b 1).toNat : Int) < 1) || decide (8 < ((at0 b 1).toNat : Int))) = false) : at0 b 0 = 110 ∧ 1 ≤ (at0 b 1).toNat ∧ (at0 b 1).toNat ≤ 8 := by
  simp at h2
  exact ⟨UInt8.toNat_inj.1 (by have := h2.1.1; simp; omega), by omega, by omega⟩
theorem parseNE_later {b : List UInt8} (h : decide ((b.length : Int) < 2) = false) (h2 : (!decide (((at0 b 0).toNat : Int) = 110) || decide (((at0 b 1).toNat : Int) < 1) || decide (8 < ((at0 b 1).toNat : Int))) = false) :
    parseNE b = if b.length < 2 + (at0 b 1).toNat * 32 then 8 else if 2 + (at0 b 1).toNat * 32 < b.length then 9 else 0 := by
  have := of_decide_eq_false h
  obtain ⟨q1, q2, q3⟩ := parseN_good h2
  unfold parseNE
  rw [if_neg (by omega), if_neg]
  rintro (h | h | h)
  · exact h q1
  · omega
  · omega
theorem parseNL_err {b : List UInt8} {e : Int} (h : parseNE b = e) (he : e ≠ 0) : parseNL b = [] := by unfold parseNL; rw [h, if_neg he]
theorem bool_val {a b : Bool} (h : a = b) : Value.bool a = Value.bool b := by rw [h]
section
variable {a b : List (List UInt8)} {k : Nat}
theorem take_next (hk : k < a.length) (hl : a.length = b.length) (h : a.take k = b.take k) (he : a.getD k [] = b.getD k []) : a.take (k + 1) = b.take (k + 1) := by
  rw [List.take_succ_eq_append_getElem hk, List.take_succ_eq_append_getElem (hl ▸ hk), h]
  simp [hk, hl ▸ hk] at he
  rw [he]
theorem beq_lens (h : (!decide ((a.length : Int) = (b.length : Int))) = true) : false = (a == b) := by
  cases hab : (a == b) with
  | false => rfl
  | true => have := eq_of_beq hab; subst this; simp at h
theorem beq_at (hk : k < a.length) (he : ¬ a.getD k [] = b.getD k []) : false = (a == b) := by
  cases hab : (a == b) with
  | false => rfl
  | true => have := eq_of_beq hab; subst this; exact absurd rfl he
theorem beq_all (hl : a.length = b.length) (h : a.take a.length = b.take a.length) : true = (a == b) := by
  rw [List.take_length, hl, List.take_length] at h
  simp [h]
end
end Go.Proofs.Ytnhidehpacidnaa
