/- Blocks: plain words of the laws. -/
import Derived.Test.YtnhidehpacidnaaBlob3
namespace Go.Proofs.Ytnhidehpacidnaa
set_option linter.unusedVariables false
set_option linter.unusedSimpArgs false
/-- The inode that a law takes. -/
def nodeS (k s : Int) : Int := s % 5000
def nodeM (k s l : Int) (top : List UInt8) (how : Int) : Int × Int × Int × List UInt8 :=
  if how.tmod 3 = 0 then (k, s, l, top) else (1 + k % 2, s % 5000, (lev (s % 5000) : Int), if s % 5000 = 0 then zeroId else top)
theorem nodeM_top {k s l : Int} {top : List UInt8} (how : Int) (h : top.length = 32) : (nodeM k s l top how).2.2.2.length = 32 := by
  unfold nodeM; repeat' split
  all_goals first | exact h | rfl
theorem known_node : wrongN 1 0 0 zeroId = 0 := by decide
theorem known_len : (inodeR 1 0 0 zeroId).length = 39 := by rw [inodeR, if_pos known_node]; rfl
theorem known_at : at0 (inodeR 1 0 0 zeroId) 0 = 105 := by rw [inodeR, if_pos known_node]; rfl
theorem innerR_le (l : List (List UInt8)) (h : Ids l) : (innerR l).length ≤ 300 := by
  unfold innerR
  split
  · rename_i h0
    have := innerE_zero h0
    rw [innerTo_length h (Nat.le_refl _)]
    omega
  · simp
theorem inodeR_le (k s l : Int) (top : List UInt8) (h : top.length = 32) : (inodeR k s l top).length ≤ 39 := by
  unfold inodeR
  split
  · simp [inodeB, numB_length, h]
  · simp
theorem rows4 {α : Type} (P : α → Prop) (a b c d z : α) (ha : P a) (hb : P b) (hc : P c) (hd : P d) : ∀ i, i < 4 → P ([a, b, c, d].getD i z) := by
  intro i hi
  have : i = 0 ∨ i = 1 ∨ i = 2 ∨ i = 3 := by omega
  rcases this with rfl | rfl | rfl | rfl <;> assumption
theorem four_at {a b c d : Value} {k : Nat} (h : k < 4) : [a, b, c, d][k]? = some ([a, b, c, d].getD k undef) := by
  have : k = 0 ∨ k = 1 ∨ k = 2 ∨ k = 3 := by omega
  rcases this with rfl | rfl | rfl | rfl <;> rfl
theorem sizes_end {size levels : Int} {least : Nat} {k : Int} (hk : k = 1 ∨ k = 2) (hs0 : 0 ≤ size) (hs1 : size < 1048578) (hl : least = lev size) :
    ((decide (wrongN k size levels zeroId = 0) == (decide (size ≤ 1048576) && decide (levels = (least : Int)))) && (decide (wrongN k size levels zeroId = 0) || decide (wrongN k size levels zeroId = 1))) = true := by
  subst hl
  have hk' : ¬ (k ≠ 1 ∧ k ≠ 2) := by omega
  unfold wrongN
  rw [if_neg hk']
  have hB : wrongB size levels zeroId = (decide (1048576 < size) || !decide (levels = (lev size : Int))) := by
    unfold wrongB
    have h0 : decide (size < 0) = false := by simp; omega
    simp [h0]
  rw [hB]
  by_cases h1 : 1048576 < size
  · have h2 : ¬ size ≤ 1048576 := by omega
    simp [h1, h2]
  · have h2 : size ≤ 1048576 := by omega
    by_cases h3 : levels = (lev size : Int)
    · simp [h2, h3]
    · simp [h2, h3]
theorem inners_end {l : List (List UInt8)} (hl : Ids l) {rows : List (List UInt8)} {i : Nat} (h3 : rows.getD 3 [] = innerR l) {e : Int} (b : List UInt8) (hb : b = rows.getD i []) :
    ((!(parseNL b == parseNL b) || !decide (parseNE b = parseNE b)) || (decide ((i : Int) = 3) && decide (innerE l = 0) && !(parseNL b == l))) = false := by
  simp
  intro hi hE
  have : i = 3 := by omega
  subst this
  rw [hb, h3]
  exact (parse_inner hl hE).2
theorem nodeEq_refl (k s l : Int) (top : List UInt8) : nodeEq k s l top k s l top = true := by simp [nodeEq]
theorem nodes_end {k s l : Int} {top : List UInt8} (ht : top.length = 32) {rows : List (List UInt8)} {i : Nat} (h3 : rows.getD 3 [] = inodeR k s l top) {e : Int} (he : e = wrongN k s l top) (b : List UInt8) (hb : b = rows.getD i []) :
    ((!(nodeEq (parseI b).1.1 (parseI b).1.2.1 (parseI b).1.2.2.1 (parseI b).1.2.2.2 (parseI b).1.1 (parseI b).1.2.1 (parseI b).1.2.2.1 (parseI b).1.2.2.2) || !decide ((parseI b).2 = (parseI b).2)) || (decide ((i : Int) = 3) && decide (e = 0) && !(nodeEq (parseI b).1.1 (parseI b).1.2.1 (parseI b).1.2.2.1 (parseI b).1.2.2.2 k s l top))) = false := by
  rw [nodeEq_refl]
  simp
  intro hi hE
  have : i = 3 := by omega
  subst this
  subst he
  rw [hb, h3, inodeR, if_pos hE, parse_inode ht hE]
  exact nodeEq_refl _ _ _ _
end Go.Proofs.Ytnhidehpacidnaa
